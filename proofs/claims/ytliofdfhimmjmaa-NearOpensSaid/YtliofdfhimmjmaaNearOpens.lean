import Derived.Test.YtliofdfhimmjmaaLaw10
--ARR
--INF
--DEEP
--LOADS loadRN
namespace Go.Proofs.Ytliofdfhimmjmaa
open Go.Rr Go Gr Hp
set_option linter.unusedVariables false
set_option linter.unusedSimpArgs false
theorem mt_shut {s : St} {k : Nat} {u w i : Int} (h : mt (upS s k (shut (s k) true)) u w i) : mt s u w i ∧ (upS s k (shut (s k) true) i.toNat).a.w = (s i.toNat).a.w := by
  obtain ⟨h1, h2, h3, h4, h5⟩ := h
  by_cases e : i.toNat = k
  · exfalso
    rw [e, upS_same] at h3
    have h9 : (true : Bool) = false := h3
    cases h9
  · rw [upS_other e] at h2 h3 h4 h5 ⊢
    exact ⟨⟨h1, h2, h3, h4, h5⟩, rfl⟩
theorem cG_shut {n most : Int} {s : St} {k : Nat} (hg : GOk n most s) (hg' : GOk n most (upS s k (shut (s k) true))) (u w : Int) : cG s u w ≤ cG (upS s k (shut (s k) true)) u w := by
  by_cases hn : cG (upS s k (shut (s k) true)) u w = 4611686018427387906
  · rw [hn]; exact (cG_good hg).hi u w
  · obtain ⟨hne, i, hm, e⟩ := cG_ex hg' hn
    obtain ⟨hm2, e2⟩ := mt_shut hm
    rw [e, e2]
    exact cG_le hg hm2 hne
set_option maxHeartbeats 4000000 in
theorem nearOpens_ct {w0 : World} {q p z : Int} {lv : Value} {l : List Chg} (hq : (Lit.int .u8 q).wf = true) (hp : (Lit.int .u8 p).wf = true) (hz : (Lit.int .u8 z).wf = true) (hx : SlIn w0 6 Chg.enc lv l) (hl : l.length ≤ 9223372036854775807) :
    CT Try.prog 5 [.int .u8 q, lv, .int .u8 p, .int .u8 z] w0 fun x w' => x = .bool true ∧ RowKit.Below w0.heap.size w0 w' := by
  obtain ⟨q0, q1⟩ := bounds_u8 hq
  obtain ⟨p0, p1⟩ := bounds_u8 hp
  obtain ⟨z0, z1⟩ := bounds_u8 hz
  have H := Holds.base_refl w0
  refine CT.enter (N := 152) Try.func5 rfl rfl rfl rfl ?_
  refine W.seq (fun K0 hK0 => ?_)
  refine W.region ?_
  refine O.ex (Ex.assign rfl) rfl ?_
  refine O.nil ?_
  refine hK0 _ _ _ ?_
  refine W.seq (fun K1 hK1 => ?_)
  refine W.seq (fun K2 hK2 => ?_)
  refine W.region ?_
  refine O.callF Try.call10 rfl rfl (CT.mono (awake10_ct (Holds.to (by assumption))) ?_)
  rintro _ w ⟨rfl, H⟩
  refine O.ex (by first | exact Ex.notD rfl | exact Ex.not rfl) rfl ?_
  refine O.nil ?_
  refine hK2 _ _ _ ?_
  refine W.known_f rfl (by first | rfl | decide | exact decide_eq_true rfl | exact decide_eq_true hre | exact decide_eq_false (fun hh => hh hcl0) | exact decide_eq_false hlenu | exact decide_eq_false hlent | exact decide_eq_false hnot | exact decide_eq_false hlens | exact decide_eq_false hmono) ?_
  refine W.skip ?_
  refine hK1 _ _ _ ?_
  refine W.seq (fun K3 hK3 => ?_)
  refine W.region ?_
  refine O.ex (Ex.move rfl) rfl ?_
  refine O.ex (Ex.move rfl) rfl ?_
  refine O.callF Try.call11 rfl rfl (CT.mono (made08_ct hq hx hl (Holds.to (M := base w0 :: _) (by assumption))) ?_)
  rintro _ w ⟨g, r, hg, rfl, H⟩
  refine O.ex (Ex.move rfl) rfl ?_
  refine O.ex (Ex.extract rfl rfl) rfl ?_
  refine O.ex (Ex.extract rfl rfl) rfl ?_
  refine O.ex (Ex.assign rfl) rfl ?_
  refine O.ex (Ex.assign rfl) rfl ?_
  refine O.nil ?_
  refine hK3 _ _ _ ?_
  refine W.seq (fun K4 hK4 => ?_)
  refine W.seq (fun K5 hK5 => ?_)
  refine W.region ?_
  refine O.ex (Ex.move rfl) rfl ?_
  refine O.ex (Ex.nilEq Try.runUnderlying24 rfl rfl) rfl ?_
  refine O.nil ?_
  refine hK5 _ _ _ ?_
  refine W.known_f rfl (by first | rfl | decide | exact decide_eq_true rfl | exact decide_eq_true hre | exact decide_eq_false (fun hh => hh hcl0) | exact decide_eq_false hlenu | exact decide_eq_false hlent | exact decide_eq_false hnot | exact decide_eq_false hlens | exact decide_eq_false hmono) ?_
  refine W.skip ?_
  refine hK4 _ _ _ ?_
  refine W.seq (fun K6 hK6 => ?_)
  obtain ⟨s, hs⟩ : ∃ s, s = doAll (1 + q % 24) 64 noS (l.take 150) := ⟨_, rfl⟩
  rw [← hs] at hg H
  obtain ⟨n, hn⟩ : ∃ n, n = 1 + q % 24 := ⟨_, rfl⟩
  rw [← hn] at hg H
  have n1 := hg.n1
  have n2 := hg.n2
  have hG := cG_good hg
  refine W.drawTo (Rg r n 64 s :: []) (.take 0 (.take 1 (.take 2 (.take 3 (.take 4 (.take 5 (.take 6 (.take 7 (.take 8 (.take 9 (.take 10 (.take 11 .nil)))))))))))) (mixed) (fun _ _ _ _ h => h) (by assumption) PP.auto (by decide +kernel) (fun w H => ?_)
  refine OQ.ex rfl (fun w H => (Ex.move rfl)) rfl ?_
  refine OQ.ex rfl (fun w H => (by first | exact Ex.convToI Try.runUnderlying5 Try.runUnderlying3 rfl | exact Ex.convW Try.runUnderlying5 Try.runUnderlying3 rfl)) rfl ?_
  refine OQ.ex rfl (fun w H => (by first | exact Ex.remI rfl rfl | exact Ex.rem rfl rfl (by omega) rfl)) rfl ?_
  refine OQ.ex rfl (fun w H => (Ex.move rfl)) rfl ?_
  refine OQ.ex rfl (fun w H => (by first | exact Ex.convToI Try.runUnderlying5 Try.runUnderlying3 rfl | exact Ex.convW Try.runUnderlying5 Try.runUnderlying3 rfl)) rfl ?_
  refine OQ.ex rfl (fun w H => (Ex.move rfl)) rfl ?_
  refine OQ.ex rfl (fun w H => (by first | exact Ex.nilPtr rfl | exact Ex.nilFunc rfl | exact Ex.nilYield rfl)) rfl ?_
  refine OQ.ex rfl (fun w H => (by first | exact Ex.field0 fld45_0 rfl | exact Ex.field fld45_0 rfl | exact Ex.fieldS fld45_0 rfl | exact Ex.fieldIn fld45_0 rfl)) rfl ?_
  refine OQ.ex rfl (fun w H => (by first | exact Ex.loadRN Try.isAgg3 rfl | exact Ex.loadMh Try.isAgg3 rfl | exact Ex.loadInF Try.isAgg3 rfl (Holds.to (by assumption)) | exact Ex.loadP Try.isAgg3 rfl | exact Ex.loadM Try.isAgg3 rfl | exact Ex.loadIn1 Try.isAgg3 rfl (Holds.to (by assumption)) | exact Ex.loadVc Try.isAgg3 rfl | exact Ex.loadR Try.isAgg3 rfl | exact Ex.loadQ Try.isAgg3 rfl)) rfl ?_
  refine OQ.ex rfl (fun w H => (by first | exact Ex.remI rfl rfl | exact Ex.rem rfl rfl (by omega) rfl)) rfl ?_
  refine OQ.ex rfl (fun w H => (Ex.assign rfl)) rfl ?_
  refine OQ.ex rfl (fun w H => (Ex.assign rfl)) rfl ?_
  refine OQ.done ?_
  refine hK6 _ _ _ ?_
  refine W.seq (fun K7 hK7 => ?_)
  refine W.region ?_
  obtain ⟨u, hu⟩ : ∃ u, u = z % n := ⟨_, rfl⟩
  have u0 : 0 ≤ u := by rw [hu]; exact Int.emod_nonneg _ (by omega)
  have u1 : u < n := by rw [hu]; exact Int.emod_lt_of_pos _ (by omega)
  obtain ⟨k, hk⟩ : ∃ k, k = p % 64 := ⟨_, rfl⟩
  have hpl : pl k := ⟨by omega, by omega⟩
  rw [← hu, ← hk]
  refine O.ex (Ex.move rfl) rfl ?_
  refine O.ex (Ex.move rfl) rfl ?_
  refine O.callF Try.call22 rfl rfl (CT.mono (rarc_ct (r := r) hg (Holds.to (M := Rg r n 64 s :: _) (by assumption))) ?_)
  rintro _ w ⟨rfl, H⟩
  refine O.ex (Ex.move rfl) rfl ?_
  refine O.ex (Ex.extract rfl rfl) rfl ?_
  refine O.ex (Ex.extract rfl rfl) rfl ?_
  refine O.allocP Try.zeroValue42 (fun b13 w H => ?_)
  first | refine O.storeAggP Try.sizeOf42 rfl rfl rfl rfl (fun w H => ?_) | refine O.storeAggN Try.sizeOf42 rfl rfl rfl (fun w H => ?_) rfl
  obtain ⟨a, ha⟩ : ∃ a, a = arcQ s k := ⟨_, rfl⟩
  replace H : Holds w (pt b13 (.cells #[.int .i64 a.t, .int .i64 a.h, .int .i64 a.w, .bool a.cl] 42 (0, 0)) :: Gh g n 64 s :: Rg r n 64 s :: base w0 :: []) := by rw [ha]; exact Holds.to H
  refine O.ex (Ex.assign rfl) rfl ?_
  refine O.nil ?_
  refine hK7 _ _ _ ?_
  refine W.seq (fun K8 hK8 => ?_)
  refine W.region ?_
  refine O.ex (Ex.move rfl) rfl ?_
  refine O.ex (Ex.move rfl) rfl ?_
  refine O.callF Try.call20 rfl rfl (CT.mono (nfromG_ct hg u0 u1 (Holds.to (M := Gh g n 64 s :: _) (by assumption))) ?_)
  rintro _ w ⟨av, rfl, hav, H⟩
  have hFu := farL_len n (cG s) u.toNat
  have hlenu : ¬ ((farL n (cG s) u.toNat).length : Int) ≠ n := fun hh => hh (by rw [hFu]; omega)
  have uT : ((u.toNat : Nat) : Int) = u := by omega
  refine O.ex (Ex.move rfl) rfl ?_
  refine O.ex (Ex.extract rfl rfl) rfl ?_
  refine O.ex (Ex.extract rfl rfl) rfl ?_
  refine O.ex (Ex.assign rfl) rfl ?_
  refine O.ex (Ex.assign rfl) rfl ?_
  refine O.nil ?_
  refine hK8 _ _ _ ?_
  refine W.seq (fun K9 hK9 => ?_)
  refine W.seq (fun K10 hK10 => ?_)
  refine W.region ?_
  refine O.ex (Ex.move rfl) rfl ?_
  refine O.ex (by first | exact Ex.notD rfl | exact Ex.not rfl) rfl ?_
  refine O.ex (Ex.move rfl) rfl ?_
  first | refine O.split_p (t := 59) rfl (fun hno => ?_) (fun hyes => ?_) | refine O.split (t := 59) rfl (fun hno => ?_) (fun hyes => ?_)
  · refine O.guard_f rfl rfl rfl rfl ?_
    refine O.guard_f rfl rfl rfl rfl ?_
    refine O.ex (Ex.pick_t rfl rfl) rfl ?_
    refine O.nil ?_
    refine hK10 _ _ _ ?_
    refine W.cond_t rfl ?_
    refine W.seq (fun K11 hK11 => ?_)
    refine W.region ?_
    refine O.ex (Ex.move rfl) rfl ?_
    refine O.ex (Ex.move rfl) rfl ?_
    refine O.callF Try.call23 rfl rfl (CT.mono (gClose_ct (g := g) (id := k) (Holds.to (M := Gh g n 64 s :: _) (by assumption))) ?_)
    rintro _ w ⟨rfl, H⟩
    refine O.ex (Ex.neqI rfl rfl) rfl ?_
    refine O.ex (Ex.assign rfl) rfl ?_
    refine O.nil ?_
    refine hK11 _ _ _ ?_
    refine W.ret ?_
    try dsimp only [thenQ, blockQ, retQ]
    first | refine ⟨_, ⟨_, _, rfl, rfl, rfl⟩, ?_⟩ | (refine retD_mark ?_; intro w H; refine ⟨_, ⟨_, _, rfl, rfl, rfl⟩, ?_⟩) | (refine retD_mark2 ?_; intro w H; refine ⟨_, ⟨_, _, rfl, rfl, rfl⟩, ?_⟩)
    first
    | exact ⟨rfl, Holds.base_below (L := []) (Holds.to (by assumption))⟩
    | (have hne : ¬ turnC s k true = 0 := fun hc => by
         obtain ⟨⟨h1, h2⟩, h3⟩ := turnC_zero.1 hc
         have hth : thB s k = true := by unfold thB; rw [decide_eq_true h1, h2]; rfl
         first
         | (have h8 : ¬ thB s k = true := by simpa using hno
            exact h8 hth)
         | (have h8 : a.cl = true := by simpa using hcl
            have haq : a = (s k.toNat).a := by rw [ha]; exact if_pos hpl
            rw [haq] at h8; rw [h8] at h3; cases h3)
       exact ⟨congrArg Value.bool (decide_eq_true hne), Holds.base_below (L := []) (Holds.to (by assumption))⟩)
  · refine O.guard_t rfl rfl ?_
    refine O.ex (by first | exact Ex.field0 fld42_3 rfl | exact Ex.field fld42_3 rfl | exact Ex.fieldS fld42_3 rfl | exact Ex.fieldIn fld42_3 rfl) rfl ?_
    refine O.guard_t rfl rfl ?_
    refine O.ex (by first | exact Ex.loadRN Try.isAgg4 rfl | exact Ex.loadMh Try.isAgg4 rfl | exact Ex.loadInF Try.isAgg4 rfl (Holds.to (by assumption)) | exact Ex.loadP Try.isAgg4 rfl | exact Ex.loadM Try.isAgg4 rfl | exact Ex.loadIn1 Try.isAgg4 rfl (Holds.to (by assumption)) | exact Ex.loadVc Try.isAgg4 rfl | exact Ex.loadR Try.isAgg4 rfl | exact Ex.loadQ Try.isAgg4 rfl) rfl ?_
    refine O.ex (Ex.pick_f rfl rfl) rfl ?_
    refine O.nil ?_
    refine hK10 _ _ _ ?_
    first | refine W.cond_p rfl (fun hcl => ?_) (fun hop => ?_) | refine W.cond_b rfl (fun hcl => ?_) (fun hop => ?_)
    · refine W.seq (fun K12 hK12 => ?_)
      refine W.region ?_
      refine O.ex (Ex.move rfl) rfl ?_
      refine O.ex (Ex.move rfl) rfl ?_
      refine O.callF Try.call23 rfl rfl (CT.mono (gClose_ct (g := g) (id := k) (Holds.to (M := Gh g n 64 s :: _) (by assumption))) ?_)
      rintro _ w ⟨rfl, H⟩
      refine O.ex (Ex.neqI rfl rfl) rfl ?_
      refine O.ex (Ex.assign rfl) rfl ?_
      refine O.nil ?_
      refine hK12 _ _ _ ?_
      refine W.ret ?_
      try dsimp only [thenQ, blockQ, retQ]
      first | refine ⟨_, ⟨_, _, rfl, rfl, rfl⟩, ?_⟩ | (refine retD_mark ?_; intro w H; refine ⟨_, ⟨_, _, rfl, rfl, rfl⟩, ?_⟩) | (refine retD_mark2 ?_; intro w H; refine ⟨_, ⟨_, _, rfl, rfl, rfl⟩, ?_⟩)
      first
      | exact ⟨rfl, Holds.base_below (L := []) (Holds.to (by assumption))⟩
      | (have hne : ¬ turnC s k true = 0 := fun hc => by
           obtain ⟨⟨h1, h2⟩, h3⟩ := turnC_zero.1 hc
           have hth : thB s k = true := by unfold thB; rw [decide_eq_true h1, h2]; rfl
           first
           | (have h8 : ¬ thB s k = true := by simpa using hno
              exact h8 hth)
           | (have h8 : a.cl = true := by simpa using hcl
              have haq : a = (s k.toNat).a := by rw [ha]; exact if_pos hpl
              rw [haq] at h8; rw [h8] at h3; cases h3)
         exact ⟨congrArg Value.bool (decide_eq_true hne), Holds.base_below (L := []) (Holds.to (by assumption))⟩)
    · refine W.skip ?_
      refine hK9 _ _ _ ?_
      refine W.seq (fun K13 hK13 => ?_)
      refine W.region ?_
      have hth : thB s k = true := by simpa using hyes
      have hop' : a.cl = false := by simpa using hop
      have htk : (s k.toNat).tk = true := by unfold thB at hth; rw [decide_eq_true hpl, Bool.true_and] at hth; exact hth
      have haq : a = (s k.toNat).a := by rw [ha]; exact if_pos hpl
      obtain ⟨⟨⟨a1, a2⟩, a3, a4⟩, a5, a6⟩ := hg.arc _ htk
      rw [← haq] at a1 a2 a3 a4 a5 a6
      have hcl0 : turnC s k true = 0 := turnC_zero.2 ⟨⟨hpl, htk⟩, by rw [← haq, hop']; decide⟩
      have hS : turnS s k true = upS s k.toNat (shut (s k.toNat) true) := if_pos hcl0
      have hgt := ok_turn hg k true
      have hback := turn_back hcl0
      have hre : turnC (turnS s k true) k false = 0 := hback.1
      have htT : ((a.t.toNat : Nat) : Int) = a.t := by omega
      refine O.ex (Ex.move rfl) rfl ?_
      refine O.ex (by first | exact Ex.field0 fld42_0 rfl | exact Ex.field fld42_0 rfl | exact Ex.fieldS fld42_0 rfl | exact Ex.fieldIn fld42_0 rfl) rfl ?_
      refine O.ex (by first | exact Ex.loadRN Try.isAgg3 rfl | exact Ex.loadMh Try.isAgg3 rfl | exact Ex.loadInF Try.isAgg3 rfl (Holds.to (by assumption)) | exact Ex.loadP Try.isAgg3 rfl | exact Ex.loadM Try.isAgg3 rfl | exact Ex.loadIn1 Try.isAgg3 rfl (Holds.to (by assumption)) | exact Ex.loadVc Try.isAgg3 rfl | exact Ex.loadR Try.isAgg3 rfl | exact Ex.loadQ Try.isAgg3 rfl) rfl ?_
      refine O.callF Try.call20 rfl rfl (CT.mono (nfromG_ct hg a1 a2 (Holds.to (M := Gh g n 64 s :: _) (by assumption))) ?_)
      rintro _ w ⟨tv, rfl, htv, H⟩
      have hFt := farL_len n (cG s) a.t.toNat
      have hlent : ¬ ((farL n (cG s) a.t.toNat).length : Int) ≠ n := fun hh => hh (by rw [hFt]; omega)
      have hhl : a.h < ((farL n (cG s) a.t.toNat).length : Int) := by rw [hFt]; omega
      have eth : (farL n (cG s) a.t.toNat).getD a.h.toNat default = far n (cG s) a.t a.h := by rw [farL_get a3 a4, htT]
      have hnot : ¬ a.w < far n (cG s) a.t a.h := by
        by_cases e : a.t = a.h
        · rw [e, far_self hG]; omega
        · have hmt : mt s a.t a.h k := ⟨hpl, htk, by rw [← haq]; exact hop', by rw [← haq], by rw [← haq]⟩
          have := cG_le hg hmt e
          rw [← haq] at this
          have h3 := fw_le hG n.toNat a.t a.h
          have h4 : far n (cG s) a.t a.h ≤ cG s a.t a.h := h3
          omega
      refine O.ex (Ex.move rfl) rfl ?_
      refine O.ex (Ex.extract rfl rfl) rfl ?_
      refine O.ex (Ex.extract rfl rfl) rfl ?_
      refine O.ex (Ex.assign rfl) rfl ?_
      refine O.ex (Ex.assign rfl) rfl ?_
      refine O.nil ?_
      refine hK13 _ _ _ ?_
      refine W.seq (fun K14 hK14 => ?_)
      refine W.seq (fun K15 hK15 => ?_)
      replace H : Holds w (pt b13 (.cells #[.int .i64 a.t, .int .i64 a.h, .int .i64 a.w, .bool a.cl] 42 (0, 0)) :: arr 3 (Value.int .i64) av (farL n (cG s) u.toNat) :: arr 3 (Value.int .i64) tv (farL n (cG s) a.t.toNat) :: Rg r n 64 s :: Gh g n 64 s :: base w0 :: []) := Holds.to H
      refine W.drawTo (pt b13 (.cells #[.int .i64 a.t, .int .i64 a.h, .int .i64 a.w, .bool a.cl] 42 (0, 0)) :: arr 3 (Value.int .i64) av (farL n (cG s) u.toNat) :: arr 3 (Value.int .i64) tv (farL n (cG s) a.t.toNat) :: Rg r n 64 s :: []) (.take 0 (.take 1 (.one 2 (.take 3 (.take 4 (.take 5 (.take 6 (.take 7 (.take 8 (.take 9 (.take 10 (.take 11 (.take 12 (.take 13 (.take 14 (.take 15 (.take 16 (.take 17 (.take 18 (.take 19 (.take 20 (.take 21 (.take 22 (.take 23 (.take 24 (.take 25 (.take 26 (.take 27 (.take 28 (.take 29 (.take 30 (.take 31 .nil)))))))))))))))))))))))))))))))) (mixed) (fun _ _ _ _ h => h) (by assumption) PP.auto (by decide +kernel) (fun w H => ?_)
      refine OQ.ex rfl (fun w H => (Ex.move rfl)) rfl ?_
      refine OQ.ex rfl (fun w H => (Ex.move rfl)) rfl ?_
      refine OQ.step rfl ?_
      refine O.callF Try.call23 rfl rfl (CT.mono (gClose_ct (g := g) (id := k) (Holds.to (M := Gh g n 64 s :: _) (by assumption))) ?_)
      rintro _ w ⟨rfl, H⟩
      refine O.thenNil ⟨(by first | exact Holds.to (by assumption) | assumption), ?_⟩
      refine OQ.ex rfl (fun w H => (Ex.neqI rfl rfl)) rfl ?_
      refine OQ.ex rfl (fun w H => (Ex.move rfl)) rfl ?_
      refine OQ.known (t := 78) (c := false) rfl (by first | rfl | decide | exact decide_eq_true rfl | exact decide_eq_true hre | exact decide_eq_false (fun hh => hh hcl0) | exact decide_eq_false hlenu | exact decide_eq_false hlent | exact decide_eq_false hnot | exact decide_eq_false hlens | exact decide_eq_false hmono) ?_
      refine OQ.exT rfl rfl rfl (fun w H => (Ex.move rfl)) rfl ?_
      refine OQ.exT rfl rfl rfl (fun w H => (by first | exact Ex.lenR Try.runUnderlying28 rfl | exact Ex.lenIn Try.runUnderlying28 rfl | exact Ex.lenL Try.runUnderlying28 rfl | exact Ex.len rfl Try.runUnderlying28 rfl)) rfl ?_
      refine OQ.exT rfl rfl rfl (fun w H => (Ex.move rfl)) rfl ?_
      refine OQ.exT rfl rfl rfl (fun w H => (by first | exact Ex.nilPtr rfl | exact Ex.nilFunc rfl | exact Ex.nilYield rfl)) rfl ?_
      refine OQ.exT rfl rfl rfl (fun w H => (by first | exact Ex.field0 fld45_0 rfl | exact Ex.field fld45_0 rfl | exact Ex.fieldS fld45_0 rfl | exact Ex.fieldIn fld45_0 rfl)) rfl ?_
      refine OQ.exT rfl rfl rfl (fun w H => (by first | exact Ex.loadRN Try.isAgg3 rfl | exact Ex.loadMh Try.isAgg3 rfl | exact Ex.loadInF Try.isAgg3 rfl (Holds.to (by assumption)) | exact Ex.loadP Try.isAgg3 rfl | exact Ex.loadM Try.isAgg3 rfl | exact Ex.loadIn1 Try.isAgg3 rfl (Holds.to (by assumption)) | exact Ex.loadVc Try.isAgg3 rfl | exact Ex.loadR Try.isAgg3 rfl | exact Ex.loadQ Try.isAgg3 rfl)) rfl ?_
      refine OQ.exT rfl rfl rfl (fun w H => (Ex.neqI rfl rfl)) rfl ?_
      refine OQ.ex rfl (fun w H => (Ex.pick_f rfl rfl)) rfl ?_
      refine OQ.ex rfl (fun w H => (Ex.move rfl)) rfl ?_
      refine OQ.known (t := 87) (c := false) rfl (by first | rfl | decide | exact decide_eq_true rfl | exact decide_eq_true hre | exact decide_eq_false (fun hh => hh hcl0) | exact decide_eq_false hlenu | exact decide_eq_false hlent | exact decide_eq_false hnot | exact decide_eq_false hlens | exact decide_eq_false hmono) ?_
      refine OQ.exT rfl rfl rfl (fun w H => (Ex.move rfl)) rfl ?_
      refine OQ.exT rfl rfl rfl (fun w H => (by first | exact Ex.lenR Try.runUnderlying28 rfl | exact Ex.lenIn Try.runUnderlying28 rfl | exact Ex.lenL Try.runUnderlying28 rfl | exact Ex.len rfl Try.runUnderlying28 rfl)) rfl ?_
      refine OQ.exT rfl rfl rfl (fun w H => (Ex.move rfl)) rfl ?_
      refine OQ.exT rfl rfl rfl (fun w H => (by first | exact Ex.nilPtr rfl | exact Ex.nilFunc rfl | exact Ex.nilYield rfl)) rfl ?_
      refine OQ.exT rfl rfl rfl (fun w H => (by first | exact Ex.field0 fld45_0 rfl | exact Ex.field fld45_0 rfl | exact Ex.fieldS fld45_0 rfl | exact Ex.fieldIn fld45_0 rfl)) rfl ?_
      refine OQ.exT rfl rfl rfl (fun w H => (by first | exact Ex.loadRN Try.isAgg3 rfl | exact Ex.loadMh Try.isAgg3 rfl | exact Ex.loadInF Try.isAgg3 rfl (Holds.to (by assumption)) | exact Ex.loadP Try.isAgg3 rfl | exact Ex.loadM Try.isAgg3 rfl | exact Ex.loadIn1 Try.isAgg3 rfl (Holds.to (by assumption)) | exact Ex.loadVc Try.isAgg3 rfl | exact Ex.loadR Try.isAgg3 rfl | exact Ex.loadQ Try.isAgg3 rfl)) rfl ?_
      refine OQ.exT rfl rfl rfl (fun w H => (Ex.neqI rfl rfl)) rfl ?_
      refine OQ.ex rfl (fun w H => (Ex.pick_f rfl rfl)) rfl ?_
      refine OQ.ex rfl (fun w H => (Ex.move rfl)) rfl ?_
      refine OQ.known (t := 96) (c := false) rfl (by first | rfl | decide | exact decide_eq_true rfl | exact decide_eq_true hre | exact decide_eq_false (fun hh => hh hcl0) | exact decide_eq_false hlenu | exact decide_eq_false hlent | exact decide_eq_false hnot | exact decide_eq_false hlens | exact decide_eq_false hmono) ?_
      refine OQ.exT rfl rfl rfl (fun w H => (Ex.move rfl)) rfl ?_
      refine OQ.exT rfl rfl rfl (fun w H => (by first | exact Ex.field0 fld42_1 rfl | exact Ex.field fld42_1 rfl | exact Ex.fieldS fld42_1 rfl | exact Ex.fieldIn fld42_1 rfl)) rfl ?_
      refine OQ.exT rfl rfl rfl (fun w H => (by first | exact Ex.loadRN Try.isAgg3 rfl | exact Ex.loadMh Try.isAgg3 rfl | exact Ex.loadInF Try.isAgg3 rfl (Holds.to (by assumption)) | exact Ex.loadP Try.isAgg3 rfl | exact Ex.loadM Try.isAgg3 rfl | exact Ex.loadIn1 Try.isAgg3 rfl (Holds.to (by assumption)) | exact Ex.loadVc Try.isAgg3 rfl | exact Ex.loadR Try.isAgg3 rfl | exact Ex.loadQ Try.isAgg3 rfl)) rfl ?_
      refine OQ.exT rfl rfl rfl (fun w H => (by first | exact Ex.idxR Try.runUnderlying28 Try.sizeOf3 rfl rfl | exact Ex.idxIn Try.runUnderlying28 Try.sizeOf3 rfl rfl | exact Ex.idxS Try.runUnderlying28 Try.sizeOf3 rfl rfl | exact Ex.idx Try.runUnderlying28 Try.sizeOf3 rfl rfl (by omega) (by omega))) rfl ?_
      refine OQ.exT rfl rfl rfl (fun w H => (Ex.cast (v := .int .i64 (far n (cG s) a.t a.h)) (Ex.loadR (xs := farL n (cG s) a.t.toNat) Try.isAgg3 rfl) (by rw [eth]))) rfl ?_
      refine OQ.exT rfl rfl rfl (fun w H => (by first | exact Ex.field0 fld42_2 rfl | exact Ex.field fld42_2 rfl | exact Ex.fieldS fld42_2 rfl | exact Ex.fieldIn fld42_2 rfl)) rfl ?_
      refine OQ.exT rfl rfl rfl (fun w H => (by first | exact Ex.loadRN Try.isAgg3 rfl | exact Ex.loadMh Try.isAgg3 rfl | exact Ex.loadInF Try.isAgg3 rfl (Holds.to (by assumption)) | exact Ex.loadP Try.isAgg3 rfl | exact Ex.loadM Try.isAgg3 rfl | exact Ex.loadIn1 Try.isAgg3 rfl (Holds.to (by assumption)) | exact Ex.loadVc Try.isAgg3 rfl | exact Ex.loadR Try.isAgg3 rfl | exact Ex.loadQ Try.isAgg3 rfl)) rfl ?_
      refine OQ.exT rfl rfl rfl (fun w H => (Ex.gtr rfl rfl)) rfl ?_
      refine OQ.ex rfl (fun w H => (Ex.pick_f rfl rfl)) rfl ?_
      refine OQ.done ?_
      refine hK15 _ _ _ ?_
      refine W.known_f rfl (by first | rfl | decide | exact decide_eq_true rfl | exact decide_eq_true hre | exact decide_eq_false (fun hh => hh hcl0) | exact decide_eq_false hlenu | exact decide_eq_false hlent | exact decide_eq_false hnot | exact decide_eq_false hlens | exact decide_eq_false hmono) ?_
      refine W.skip ?_
      refine hK14 _ _ _ ?_
      refine W.seq (fun K16 hK16 => ?_)
      refine W.region ?_
      refine O.ex (Ex.move rfl) rfl ?_
      refine O.ex (Ex.move rfl) rfl ?_
      refine O.callF Try.call20 rfl rfl (CT.mono (nfromG_ct hgt u0 u1 (Holds.to (M := Gh g n 64 (turnS s k true) :: _) (by assumption))) ?_)
      rintro _ w ⟨sv, rfl, hsv, H⟩
      have hFs := farL_len n (cG (turnS s k true)) u.toNat
      have hlens : ¬ ((farL n (cG (turnS s k true)) u.toNat).length : Int) ≠ n := fun hh => hh (by rw [hFs]; omega)
      have hfm : ∀ x, far n (cG s) u x ≤ far n (cG (turnS s k true)) u x := fun x => far_mono hG (cG_good hgt) (fun a b => by rw [hS] at hgt ⊢; exact cG_shut hg hgt a b) u x
      refine O.ex (Ex.move rfl) rfl ?_
      refine O.ex (Ex.extract rfl rfl) rfl ?_
      refine O.ex (Ex.extract rfl rfl) rfl ?_
      refine O.ex (Ex.assign rfl) rfl ?_
      refine O.ex (Ex.assign rfl) rfl ?_
      refine O.nil ?_
      refine hK16 _ _ _ ?_
      refine W.seq (fun K17 hK17 => ?_)
      refine W.seq (fun K18 hK18 => ?_)
      refine W.region ?_
      refine O.ex (Ex.move rfl) rfl ?_
      refine O.ex (by first | exact Ex.lenR Try.runUnderlying28 rfl | exact Ex.lenIn Try.runUnderlying28 rfl | exact Ex.lenL Try.runUnderlying28 rfl | exact Ex.len rfl Try.runUnderlying28 rfl) rfl ?_
      refine O.ex (Ex.move rfl) rfl ?_
      refine O.ex (by first | exact Ex.nilPtr rfl | exact Ex.nilFunc rfl | exact Ex.nilYield rfl) rfl ?_
      refine O.ex (by first | exact Ex.field0 fld45_0 rfl | exact Ex.field fld45_0 rfl | exact Ex.fieldS fld45_0 rfl | exact Ex.fieldIn fld45_0 rfl) rfl ?_
      refine O.ex (by first | exact Ex.loadRN Try.isAgg3 rfl | exact Ex.loadMh Try.isAgg3 rfl | exact Ex.loadInF Try.isAgg3 rfl (Holds.to (by assumption)) | exact Ex.loadP Try.isAgg3 rfl | exact Ex.loadM Try.isAgg3 rfl | exact Ex.loadIn1 Try.isAgg3 rfl (Holds.to (by assumption)) | exact Ex.loadVc Try.isAgg3 rfl | exact Ex.loadR Try.isAgg3 rfl | exact Ex.loadQ Try.isAgg3 rfl) rfl ?_
      refine O.ex (Ex.neqI rfl rfl) rfl ?_
      refine O.nil ?_
      refine hK18 _ _ _ ?_
      refine W.known_f rfl (by first | rfl | decide | exact decide_eq_true rfl | exact decide_eq_true hre | exact decide_eq_false (fun hh => hh hcl0) | exact decide_eq_false hlenu | exact decide_eq_false hlent | exact decide_eq_false hnot | exact decide_eq_false hlens | exact decide_eq_false hmono) ?_
      refine W.skip ?_
      refine hK17 _ _ _ ?_
      refine W.seq (fun K19 hK19 => ?_)
      refine W.seq (fun K20 hK20 => ?_)
      refine W.region ?_
      refine O.ex (Ex.assign rfl) rfl ?_
      refine O.nil ?_
      refine hK20 _ _ _ ?_
      refine W.block ?_
      refine W.loop (σ := Nat) (fun i => [(9, .pointer (some ⟨g, 0, none⟩)), (10, .pointer (some ⟨r, 0, none⟩)), (11, .int .i64 k), (12, .int .i64 u), (15, av), (19, sv), (21, .int .i64 (i : Int))]) (fun i ds w => ds = [] ∧ (i : Int) ≤ n ∧ Holds w (arr 3 (Value.int .i64) sv (farL n (cG (turnS s k true)) u.toNat) :: arr 3 (Value.int .i64) av (farL n (cG s) u.toNat) :: Rg r n 64 s :: Gh g n 64 (turnS s k true) :: base w0 :: [])) (fun i => n.toNat - i) 0 ⟨rfl, rfl, rfl, rfl, rfl, rfl, rfl, trivial⟩ ⟨rfl, by omega, Holds.to (by assumption)⟩ ?_
      clear H
      rintro i _ w ⟨rfl, hi, H⟩
      refine W.seq (fun K21 hK21 => ?_)
      refine W.seq (fun K22 hK22 => ?_)
      refine W.region ?_
      refine O.ex (Ex.move rfl) rfl ?_
      refine O.ex (Ex.move rfl) rfl ?_
      refine O.ex (by first | exact Ex.nilPtr rfl | exact Ex.nilFunc rfl | exact Ex.nilYield rfl) rfl ?_
      refine O.ex (by first | exact Ex.field0 fld45_0 rfl | exact Ex.field fld45_0 rfl | exact Ex.fieldS fld45_0 rfl | exact Ex.fieldIn fld45_0 rfl) rfl ?_
      refine O.ex (by first | exact Ex.loadRN Try.isAgg3 rfl | exact Ex.loadMh Try.isAgg3 rfl | exact Ex.loadInF Try.isAgg3 rfl (Holds.to (by assumption)) | exact Ex.loadP Try.isAgg3 rfl | exact Ex.loadM Try.isAgg3 rfl | exact Ex.loadIn1 Try.isAgg3 rfl (Holds.to (by assumption)) | exact Ex.loadVc Try.isAgg3 rfl | exact Ex.loadR Try.isAgg3 rfl | exact Ex.loadQ Try.isAgg3 rfl) rfl ?_
      refine O.ex (Ex.lss rfl rfl) rfl ?_
      refine O.nil ?_
      refine hK22 _ _ _ ?_
      first | refine W.cond_p rfl (fun ilt => ?_) (fun ige => ?_) | refine W.cond_b rfl (fun ilt => ?_) (fun ige => ?_)
      · refine W.skip ?_
        refine hK21 _ _ _ ?_
        refine W.seq (fun K23 hK23 => ?_)
        refine W.block ?_
        refine W.seq (fun K24 hK24 => ?_)
        have hin : (i : Int) < n := ilt
        have i0 : (0 : Int) ≤ (i : Int) := by omega
        have hil : (i : Int) < ((farL n (cG s) u.toNat).length : Int) := by rw [hFu]; omega
        have his : (i : Int) < ((farL n (cG (turnS s k true)) u.toNat).length : Int) := by rw [hFs]; omega
        have efi : (farL n (cG s) u.toNat).getD ((i : Nat) : Int).toNat default = far n (cG s) u (i : Int) := by rw [farL_get i0 hin, uT]
        have esi : (farL n (cG (turnS s k true)) u.toNat).getD ((i : Nat) : Int).toNat default = far n (cG (turnS s k true)) u (i : Int) := by rw [farL_get i0 hin, uT]
        have hmono : ¬ far n (cG (turnS s k true)) u (i : Int) < far n (cG s) u (i : Int) := by have := hfm (i : Int); omega
        refine W.drawTo (arr 3 (Value.int .i64) sv (farL n (cG (turnS s k true)) u.toNat) :: arr 3 (Value.int .i64) av (farL n (cG s) u.toNat) :: []) (.take 0 (.take 1 (.take 2 (.take 3 (.take 4 (.take 5 (.take 6 (.take 7 (.take 8 .nil))))))))) (mixed) (fun _ _ _ _ h => h) (by assumption) PP.auto (by decide +kernel) (fun w H => ?_)
        refine OQ.ex rfl (fun w H => (Ex.move rfl)) rfl ?_
        refine OQ.ex rfl (fun w H => (Ex.move rfl)) rfl ?_
        refine OQ.ex rfl (fun w H => (by first | exact Ex.idxR Try.runUnderlying28 Try.sizeOf3 rfl rfl | exact Ex.idxIn Try.runUnderlying28 Try.sizeOf3 rfl rfl | exact Ex.idxS Try.runUnderlying28 Try.sizeOf3 rfl rfl | exact Ex.idx Try.runUnderlying28 Try.sizeOf3 rfl rfl (by omega) (by omega))) rfl ?_
        refine OQ.ex rfl (fun w H => (Ex.cast (v := .int .i64 (far n (cG (turnS s k true)) u (i : Int))) (Ex.loadR (xs := farL n (cG (turnS s k true)) u.toNat) Try.isAgg3 rfl) (by rw [esi]))) rfl ?_
        refine OQ.ex rfl (fun w H => (Ex.move rfl)) rfl ?_
        refine OQ.ex rfl (fun w H => (Ex.move rfl)) rfl ?_
        refine OQ.ex rfl (fun w H => (by first | exact Ex.idxR Try.runUnderlying28 Try.sizeOf3 rfl rfl | exact Ex.idxIn Try.runUnderlying28 Try.sizeOf3 rfl rfl | exact Ex.idxS Try.runUnderlying28 Try.sizeOf3 rfl rfl | exact Ex.idx Try.runUnderlying28 Try.sizeOf3 rfl rfl (by omega) (by omega))) rfl ?_
        refine OQ.ex rfl (fun w H => (Ex.cast (v := .int .i64 (far n (cG s) u (i : Int))) (Ex.loadR (xs := farL n (cG s) u.toNat) Try.isAgg3 rfl) (by rw [efi]))) rfl ?_
        refine OQ.ex rfl (fun w H => (Ex.lss rfl rfl)) rfl ?_
        refine OQ.done ?_
        refine hK24 _ _ _ ?_
        refine W.known_f rfl (by first | rfl | decide | exact decide_eq_true rfl | exact decide_eq_true hre | exact decide_eq_false (fun hh => hh hcl0) | exact decide_eq_false hlenu | exact decide_eq_false hlent | exact decide_eq_false hnot | exact decide_eq_false hlens | exact decide_eq_false hmono) ?_
        refine W.skip ?_
        refine hK23 _ _ _ ?_
        refine W.region ?_
        refine O.ex (Ex.move rfl) rfl ?_
        refine O.ex (by first | exact Ex.addI rfl rfl | exact Ex.add rfl rfl rfl) rfl ?_
        refine O.ex (Ex.assign rfl) rfl ?_
        refine O.nil ?_
        exact ⟨i + 1, ⟨rfl, rfl, rfl, rfl, rfl, rfl, rfl, trivial⟩, ⟨rfl, by omega, Holds.to (by assumption)⟩, by omega⟩
      · refine W.exit ?_
        refine hK19 _ _ _ ?_
        refine W.seq (fun K25 hK25 => ?_)
        refine W.region ?_
        refine O.ex (Ex.move rfl) rfl ?_
        refine O.ex (Ex.move rfl) rfl ?_
        refine O.callF Try.call24 rfl rfl (CT.mono (gReopen_ct (g := g) (id := k) (Holds.to (M := Gh g n 64 (turnS s k true) :: _) (by assumption))) ?_)
        rintro _ w ⟨rfl, H⟩
        rw [show turnS (turnS s k true) k false = s from hback.2] at H
        refine O.ex (Ex.assign rfl) rfl ?_
        refine O.nil ?_
        refine hK25 _ _ _ ?_
        refine W.seq (fun K26 hK26 => ?_)
        refine W.region ?_
        refine O.ex (Ex.move rfl) rfl ?_
        refine O.ex (Ex.move rfl) rfl ?_
        refine O.callF Try.call20 rfl rfl (CT.mono (nfromG_ct hg u0 u1 (Holds.to (M := Gh g n 64 s :: _) (by assumption))) ?_)
        rintro _ w ⟨gv, rfl, hgv, H⟩
        refine O.ex (Ex.move rfl) rfl ?_
        refine O.ex (Ex.extract rfl rfl) rfl ?_
        refine O.ex (Ex.extract rfl rfl) rfl ?_
        refine O.ex (Ex.assign rfl) rfl ?_
        refine O.ex (Ex.assign rfl) rfl ?_
        refine O.nil ?_
        refine hK26 _ _ _ ?_
        refine W.seq (fun K27 hK27 => ?_)
        refine W.region ?_
        refine O.ex (Ex.move rfl) rfl ?_
        refine O.ex (Ex.eqlI rfl rfl) rfl ?_
        refine O.ex (Ex.move rfl) rfl ?_
        refine O.known (t := 147) (c := true) rfl (by first | rfl | decide | exact decide_eq_true rfl | exact decide_eq_true hre | exact decide_eq_false (fun hh => hh hcl0) | exact decide_eq_false hlenu | exact decide_eq_false hlent | exact decide_eq_false hnot | exact decide_eq_false hlens | exact decide_eq_false hmono) ?_
        refine O.guard_t rfl rfl ?_
        refine O.ex (Ex.move rfl) rfl ?_
        refine O.guard_t rfl rfl ?_
        refine O.ex (Ex.move rfl) rfl ?_
        refine O.guard_t rfl rfl ?_
        refine O.callF Try.call15 rfl rfl (CT.mono (nints_ct (S1 := arr 3 (Value.int .i64) gv (farL n (cG s) u.toNat)) (S2 := arr 3 (Value.int .i64) av (farL n (cG s) u.toNat)) Rd.ofArr Rd.ofArr (by rw [hFu]; omega) (Holds.to (by assumption))) ?_)
        rintro _ w ⟨rfl, H⟩
        refine O.ex (Ex.pick_t rfl rfl) rfl ?_
        refine O.ex (Ex.assign rfl) rfl ?_
        refine O.nil ?_
        refine hK27 _ _ _ ?_
        refine W.ret ?_
        try dsimp only [thenQ, blockQ, retQ]
        first | refine ⟨_, ⟨_, _, rfl, rfl, rfl⟩, ?_⟩ | (refine retD_mark ?_; intro w H; refine ⟨_, ⟨_, _, rfl, rfl, rfl⟩, ?_⟩) | (refine retD_mark2 ?_; intro w H; refine ⟨_, ⟨_, _, rfl, rfl, rfl⟩, ?_⟩)
        first
        | exact ⟨rfl, Holds.base_below (L := []) (Holds.to (by assumption))⟩
        | (have hne : ¬ turnC s k true = 0 := fun hc => by
             obtain ⟨⟨h1, h2⟩, h3⟩ := turnC_zero.1 hc
             have hth : thB s k = true := by unfold thB; rw [decide_eq_true h1, h2]; rfl
             first
             | (have h8 : ¬ thB s k = true := by simpa using hno
                exact h8 hth)
             | (have h8 : a.cl = true := by simpa using hcl
                have haq : a = (s k.toNat).a := by rw [ha]; exact if_pos hpl
                rw [haq] at h8; rw [h8] at h3; cases h3)
           exact ⟨congrArg Value.bool (decide_eq_true hne), Holds.base_below (L := []) (Holds.to (by assumption))⟩)
theorem nearOpens_row {w0 : World} {q p z : Int} {lv : Value} {l : List Chg} (hq : (Lit.int .u8 q).wf = true) (hx : SlIn w0 6 Chg.enc lv l) (hg : ∀ x ∈ l, x.ok) (hl : l.length ≤ maxLen) (hp : (Lit.int .u8 p).wf = true) (hz : (Lit.int .u8 z).wf = true) :
    CT Try.prog 5 [.int .u8 q, lv, .int .u8 p, .int .u8 z] w0 fun x w' => x = .bool true ∧ RowKit.Below w0.heap.size w0 w' :=
  nearOpens_ct hq hp hz hx (by unfold maxLen at hl; omega)
end Go.Proofs.Ytliofdfhimmjmaa
