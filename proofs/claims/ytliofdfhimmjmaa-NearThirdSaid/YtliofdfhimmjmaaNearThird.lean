import Derived.Test.YtliofdfhimmjmaaLaw10
--ARR
--INF
--DEEP
--LOADS loadRN
namespace Go.Proofs.Ytliofdfhimmjmaa
open Go.Rr Go Gr Hp
set_option linter.unusedVariables false
set_option linter.unusedSimpArgs false
set_option maxHeartbeats 4000000 in
theorem nearThird_ct {w0 : World} {q z : Int} {lv : Value} {l : List Chg} (hq : (Lit.int .u8 q).wf = true) (hz : (Lit.int .u8 z).wf = true) (hx : SlIn w0 6 Chg.enc lv l) (hl : l.length ≤ 9223372036854775807) :
    CT Try.prog 4 [.int .u8 q, lv, .int .u8 z] w0 fun x w' => x = .bool true ∧ RowKit.Below w0.heap.size w0 w' := by
  obtain ⟨q0, q1⟩ := bounds_u8 hq
  obtain ⟨z0, z1⟩ := bounds_u8 hz
  have H := Holds.base_refl w0
  refine CT.enter (N := 104) Try.func4 rfl rfl rfl rfl ?_
  refine W.seq (fun K0 hK0 => ?_)
  refine W.region ?_
  refine O.ex (Ex.assign rfl) rfl ?_
  refine O.nil ?_
  refine hK0 _ _ _ ?_
  refine W.seq (fun K1 hK1 => ?_)
  refine W.seq (fun K2 hK2 => ?_)
  refine W.region ?_
  refine O.callF Try.call10 rfl rfl (CT.mono (awake10_ct (Holds.to (by assumption))) ?_)
  rintro _ w ⟨rfl, H⟩
  refine O.ex (by first | exact Ex.notD rfl | exact Ex.not rfl) rfl ?_
  refine O.nil ?_
  refine hK2 _ _ _ ?_
  refine W.known_f rfl (by first | rfl | decide | exact decide_eq_false hlenu | exact decide_eq_false hzero | exact decide_eq_false hlenb | exact decide_eq_false htri) ?_
  refine W.skip ?_
  refine hK1 _ _ _ ?_
  refine W.seq (fun K3 hK3 => ?_)
  refine W.region ?_
  refine O.ex (Ex.move rfl) rfl ?_
  refine O.ex (Ex.move rfl) rfl ?_
  refine O.callF Try.call11 rfl rfl (CT.mono (made08_ct hq hx hl (Holds.to (M := base w0 :: _) (by assumption))) ?_)
  rintro _ w ⟨g, r, hg, rfl, H⟩
  refine O.ex (Ex.move rfl) rfl ?_
  refine O.ex (Ex.extract rfl rfl) rfl ?_
  refine O.ex (Ex.extract rfl rfl) rfl ?_
  refine O.ex (Ex.assign rfl) rfl ?_
  refine O.ex (Ex.assign rfl) rfl ?_
  refine O.nil ?_
  refine hK3 _ _ _ ?_
  refine W.seq (fun K4 hK4 => ?_)
  refine W.seq (fun K5 hK5 => ?_)
  refine W.region ?_
  refine O.ex (Ex.move rfl) rfl ?_
  refine O.ex (Ex.nilEq Try.runUnderlying24 rfl rfl) rfl ?_
  refine O.nil ?_
  refine hK5 _ _ _ ?_
  refine W.known_f rfl (by first | rfl | decide | exact decide_eq_false hlenu | exact decide_eq_false hzero | exact decide_eq_false hlenb | exact decide_eq_false htri) ?_
  refine W.skip ?_
  refine hK4 _ _ _ ?_
  refine W.seq (fun K6 hK6 => ?_)
  refine W.region ?_
  obtain ⟨s, hs⟩ : ∃ s, s = doAll (1 + q % 24) 64 noS (l.take 150) := ⟨_, rfl⟩
  rw [← hs] at hg H
  obtain ⟨n, hn⟩ : ∃ n, n = 1 + q % 24 := ⟨_, rfl⟩
  rw [← hn] at hg H
  have n1 := hg.n1
  have n2 := hg.n2
  have hG := cG_good hg
  refine O.ex (Ex.move rfl) rfl ?_
  refine O.ex (by first | exact Ex.convToI Try.runUnderlying5 Try.runUnderlying3 rfl | exact Ex.convW Try.runUnderlying5 Try.runUnderlying3 rfl) rfl ?_
  refine O.ex (Ex.move rfl) rfl ?_
  refine O.ex (by first | exact Ex.nilPtr rfl | exact Ex.nilFunc rfl | exact Ex.nilYield rfl) rfl ?_
  refine O.ex (by first | exact Ex.field0 fld45_0 rfl | exact Ex.field fld45_0 rfl | exact Ex.fieldS fld45_0 rfl | exact Ex.fieldIn fld45_0 rfl) rfl ?_
  refine O.ex (by first | exact Ex.loadRN Try.isAgg3 rfl | exact Ex.loadMh Try.isAgg3 rfl | exact Ex.loadInF Try.isAgg3 rfl (Holds.to (by assumption)) | exact Ex.loadP Try.isAgg3 rfl | exact Ex.loadM Try.isAgg3 rfl | exact Ex.loadIn1 Try.isAgg3 rfl (Holds.to (by assumption)) | exact Ex.loadVc Try.isAgg3 rfl | exact Ex.loadR Try.isAgg3 rfl | exact Ex.loadQ Try.isAgg3 rfl) rfl ?_
  refine O.ex (by first | exact Ex.remI rfl rfl | exact Ex.rem rfl rfl (by omega) rfl) rfl ?_
  refine O.ex (Ex.assign rfl) rfl ?_
  refine O.nil ?_
  refine hK6 _ _ _ ?_
  refine W.seq (fun K7 hK7 => ?_)
  refine W.region ?_
  obtain ⟨u, hu⟩ : ∃ u, u = z % n := ⟨_, rfl⟩
  have u0 : 0 ≤ u := by rw [hu]; exact Int.emod_nonneg _ (by omega)
  have u1 : u < n := by rw [hu]; exact Int.emod_lt_of_pos _ (by omega)
  rw [← hu]
  refine O.ex (Ex.move rfl) rfl ?_
  refine O.ex (Ex.move rfl) rfl ?_
  refine O.callF Try.call20 rfl rfl (CT.mono (nfromG_ct hg u0 u1 (Holds.to (M := Gh g n 64 s :: _) (by assumption))) ?_)
  rintro _ w ⟨av, rfl, hav, H⟩
  have hFu := farL_len n (cG s) u.toNat
  have hlenu : ¬ ((farL n (cG s) u.toNat).length : Int) ≠ n := fun hh => hh (by rw [hFu]; omega)
  have uT : ((u.toNat : Nat) : Int) = u := by omega
  have ul : u < ((farL n (cG s) u.toNat).length : Int) := by rw [hFu]; omega
  have efu : (farL n (cG s) u.toNat).getD u.toNat default = far n (cG s) u u := by rw [farL_get u0 u1, uT]
  have hzero : ¬ far n (cG s) u u ≠ 0 := fun hh => hh (far_self hG u)
  refine O.ex (Ex.move rfl) rfl ?_
  refine O.ex (Ex.extract rfl rfl) rfl ?_
  refine O.ex (Ex.extract rfl rfl) rfl ?_
  refine O.ex (Ex.assign rfl) rfl ?_
  refine O.ex (Ex.assign rfl) rfl ?_
  refine O.nil ?_
  refine hK7 _ _ _ ?_
  refine W.seq (fun K8 hK8 => ?_)
  refine W.seq (fun K9 hK9 => ?_)
  refine W.region ?_
  refine O.ex (Ex.move rfl) rfl ?_
  refine O.ex (Ex.neqI rfl rfl) rfl ?_
  refine O.ex (Ex.move rfl) rfl ?_
  refine O.known (t := 41) (c := false) rfl (by first | rfl | decide | exact decide_eq_false hlenu | exact decide_eq_false hzero | exact decide_eq_false hlenb | exact decide_eq_false htri) ?_
  refine O.guard_t rfl rfl ?_
  refine O.ex (Ex.move rfl) rfl ?_
  refine O.guard_t rfl rfl ?_
  refine O.ex (by first | exact Ex.lenR Try.runUnderlying28 rfl | exact Ex.lenIn Try.runUnderlying28 rfl | exact Ex.lenL Try.runUnderlying28 rfl | exact Ex.len rfl Try.runUnderlying28 rfl) rfl ?_
  refine O.guard_t rfl rfl ?_
  refine O.ex (Ex.move rfl) rfl ?_
  refine O.guard_t rfl rfl ?_
  refine O.ex (by first | exact Ex.nilPtr rfl | exact Ex.nilFunc rfl | exact Ex.nilYield rfl) rfl ?_
  refine O.guard_t rfl rfl ?_
  refine O.ex (by first | exact Ex.field0 fld45_0 rfl | exact Ex.field fld45_0 rfl | exact Ex.fieldS fld45_0 rfl | exact Ex.fieldIn fld45_0 rfl) rfl ?_
  refine O.guard_t rfl rfl ?_
  refine O.ex (by first | exact Ex.loadRN Try.isAgg3 rfl | exact Ex.loadMh Try.isAgg3 rfl | exact Ex.loadInF Try.isAgg3 rfl (Holds.to (by assumption)) | exact Ex.loadP Try.isAgg3 rfl | exact Ex.loadM Try.isAgg3 rfl | exact Ex.loadIn1 Try.isAgg3 rfl (Holds.to (by assumption)) | exact Ex.loadVc Try.isAgg3 rfl | exact Ex.loadR Try.isAgg3 rfl | exact Ex.loadQ Try.isAgg3 rfl) rfl ?_
  refine O.guard_t rfl rfl ?_
  refine O.ex (Ex.neqI rfl rfl) rfl ?_
  refine O.ex (Ex.pick_f rfl rfl) rfl ?_
  refine O.ex (Ex.move rfl) rfl ?_
  refine O.known (t := 50) (c := false) rfl (by first | rfl | decide | exact decide_eq_false hlenu | exact decide_eq_false hzero | exact decide_eq_false hlenb | exact decide_eq_false htri) ?_
  refine O.guard_t rfl rfl ?_
  refine O.ex (Ex.move rfl) rfl ?_
  refine O.guard_t rfl rfl ?_
  refine O.ex (Ex.move rfl) rfl ?_
  refine O.guard_t rfl rfl ?_
  refine O.ex (by first | exact Ex.idxR Try.runUnderlying28 Try.sizeOf3 rfl rfl | exact Ex.idxIn Try.runUnderlying28 Try.sizeOf3 rfl rfl | exact Ex.idxS Try.runUnderlying28 Try.sizeOf3 rfl rfl | exact Ex.idx Try.runUnderlying28 Try.sizeOf3 rfl rfl (by omega) (by omega)) rfl ?_
  refine O.guard_t rfl rfl ?_
  refine O.ex (Ex.cast (v := .int .i64 (far n (cG s) u u)) (Ex.loadR (xs := farL n (cG s) u.toNat) Try.isAgg3 rfl (Holds.to (M := arr 3 (Value.int .i64) av (farL n (cG s) u.toNat) :: []) (by assumption)))  (by rw [efu])) rfl ?_
  refine O.guard_t rfl rfl ?_
  refine O.ex (Ex.neqI rfl rfl) rfl ?_
  refine O.ex (Ex.pick_f rfl rfl) rfl ?_
  refine O.nil ?_
  refine hK9 _ _ _ ?_
  refine W.known_f rfl (by first | rfl | decide | exact decide_eq_false hlenu | exact decide_eq_false hzero | exact decide_eq_false hlenb | exact decide_eq_false htri) ?_
  refine W.skip ?_
  refine hK8 _ _ _ ?_
  refine W.seq (fun K10 hK10 => ?_)
  refine W.seq (fun K11 hK11 => ?_)
  refine W.region ?_
  refine O.ex (Ex.assign rfl) rfl ?_
  refine O.nil ?_
  refine hK11 _ _ _ ?_
  refine W.block ?_
  refine W.loop (σ := Nat) (fun i => [(7, .pointer (some ⟨g, 0, none⟩)), (8, .pointer (some ⟨r, 0, none⟩)), (10, av), (12, .int .i64 (i : Int))]) (fun i ds w => ds = [] ∧ (i : Int) ≤ n ∧ Holds w (Gh g n 64 s :: Rg r n 64 s :: arr 3 (Value.int .i64) av (farL n (cG s) u.toNat) :: base w0 :: [])) (fun i => n.toNat - i) 0 ⟨rfl, rfl, rfl, rfl, trivial⟩ ⟨rfl, by omega, Holds.to (by assumption)⟩ ?_
  clear H
  rintro i _ w ⟨rfl, hi, H⟩
  refine W.seq (fun K12 hK12 => ?_)
  refine W.seq (fun K13 hK13 => ?_)
  refine W.region ?_
  refine O.ex (Ex.move rfl) rfl ?_
  refine O.ex (Ex.move rfl) rfl ?_
  refine O.ex (by first | exact Ex.nilPtr rfl | exact Ex.nilFunc rfl | exact Ex.nilYield rfl) rfl ?_
  refine O.ex (by first | exact Ex.field0 fld45_0 rfl | exact Ex.field fld45_0 rfl | exact Ex.fieldS fld45_0 rfl | exact Ex.fieldIn fld45_0 rfl) rfl ?_
  refine O.ex (by first | exact Ex.loadRN Try.isAgg3 rfl | exact Ex.loadMh Try.isAgg3 rfl | exact Ex.loadInF Try.isAgg3 rfl (Holds.to (by assumption)) | exact Ex.loadP Try.isAgg3 rfl | exact Ex.loadM Try.isAgg3 rfl | exact Ex.loadIn1 Try.isAgg3 rfl (Holds.to (by assumption)) | exact Ex.loadVc Try.isAgg3 rfl | exact Ex.loadR Try.isAgg3 rfl | exact Ex.loadQ Try.isAgg3 rfl) rfl ?_
  refine O.ex (Ex.lss rfl rfl) rfl ?_
  refine O.nil ?_
  refine hK13 _ _ _ ?_
  first | refine W.cond_p rfl (fun hlt => ?_) (fun hge => ?_) | refine W.cond_b rfl (fun hlt => ?_) (fun hge => ?_)
  · refine W.skip ?_
    refine hK12 _ _ _ ?_
    refine W.seq (fun K14 hK14 => ?_)
    refine W.block ?_
    refine W.seq (fun K15 hK15 => ?_)
    refine W.region ?_
    have hin : (i : Int) < n := hlt
    have i0 : (0 : Int) ≤ (i : Int) := by omega
    have hil : (i : Int) < ((farL n (cG s) u.toNat).length : Int) := by rw [hFu]; omega
    have efi : (farL n (cG s) u.toNat).getD ((i : Nat) : Int).toNat default = far n (cG s) u (i : Int) := by rw [farL_get i0 hin, uT]
    refine O.ex (Ex.move rfl) rfl ?_
    refine O.ex (Ex.move rfl) rfl ?_
    refine O.callF Try.call20 rfl rfl (CT.mono (nfromG_ct hg i0 hin (Holds.to (M := Gh g n 64 s :: _) (by assumption))) ?_)
    rintro _ w ⟨bv, rfl, hbv, H⟩
    have iT : ((((i : Nat) : Int).toNat : Nat) : Int) = (i : Int) := by omega
    have hFb := farL_len n (cG s) ((i : Nat) : Int).toNat
    have hlenb : ¬ ((farL n (cG s) ((i : Nat) : Int).toNat).length : Int) ≠ n := fun hh => hh (by rw [hFb]; omega)
    refine O.ex (Ex.move rfl) rfl ?_
    refine O.ex (Ex.extract rfl rfl) rfl ?_
    refine O.ex (Ex.extract rfl rfl) rfl ?_
    refine O.ex (Ex.assign rfl) rfl ?_
    refine O.ex (Ex.assign rfl) rfl ?_
    refine O.nil ?_
    refine hK15 _ _ _ ?_
    refine W.seq (fun K16 hK16 => ?_)
    refine W.seq (fun K17 hK17 => ?_)
    refine W.region ?_
    refine O.ex (Ex.move rfl) rfl ?_
    refine O.ex (Ex.neqI rfl rfl) rfl ?_
    refine O.ex (Ex.move rfl) rfl ?_
    refine O.known (t := 73) (c := false) rfl (by first | rfl | decide | exact decide_eq_false hlenu | exact decide_eq_false hzero | exact decide_eq_false hlenb | exact decide_eq_false htri) ?_
    refine O.guard_t rfl rfl ?_
    refine O.ex (Ex.move rfl) rfl ?_
    refine O.guard_t rfl rfl ?_
    refine O.ex (by first | exact Ex.lenR Try.runUnderlying28 rfl | exact Ex.lenIn Try.runUnderlying28 rfl | exact Ex.lenL Try.runUnderlying28 rfl | exact Ex.len rfl Try.runUnderlying28 rfl) rfl ?_
    refine O.guard_t rfl rfl ?_
    refine O.ex (Ex.move rfl) rfl ?_
    refine O.guard_t rfl rfl ?_
    refine O.ex (by first | exact Ex.nilPtr rfl | exact Ex.nilFunc rfl | exact Ex.nilYield rfl) rfl ?_
    refine O.guard_t rfl rfl ?_
    refine O.ex (by first | exact Ex.field0 fld45_0 rfl | exact Ex.field fld45_0 rfl | exact Ex.fieldS fld45_0 rfl | exact Ex.fieldIn fld45_0 rfl) rfl ?_
    refine O.guard_t rfl rfl ?_
    refine O.ex (by first | exact Ex.loadRN Try.isAgg3 rfl | exact Ex.loadMh Try.isAgg3 rfl | exact Ex.loadInF Try.isAgg3 rfl (Holds.to (by assumption)) | exact Ex.loadP Try.isAgg3 rfl | exact Ex.loadM Try.isAgg3 rfl | exact Ex.loadIn1 Try.isAgg3 rfl (Holds.to (by assumption)) | exact Ex.loadVc Try.isAgg3 rfl | exact Ex.loadR Try.isAgg3 rfl | exact Ex.loadQ Try.isAgg3 rfl) rfl ?_
    refine O.guard_t rfl rfl ?_
    refine O.ex (Ex.neqI rfl rfl) rfl ?_
    refine O.ex (Ex.pick_f rfl rfl) rfl ?_
    refine O.nil ?_
    refine hK17 _ _ _ ?_
    refine W.known_f rfl (by first | rfl | decide | exact decide_eq_false hlenu | exact decide_eq_false hzero | exact decide_eq_false hlenb | exact decide_eq_false htri) ?_
    refine W.skip ?_
    refine hK16 _ _ _ ?_
    refine W.seq (fun K18 hK18 => ?_)
    refine W.region ?_
    refine O.ex (Ex.assign rfl) rfl ?_
    refine O.nil ?_
    refine hK18 _ _ _ ?_
    refine W.block ?_
    refine W.loop (σ := Nat) (fun j => [(7, .pointer (some ⟨g, 0, none⟩)), (8, .pointer (some ⟨r, 0, none⟩)), (10, av), (12, .int .i64 (i : Int)), (13, bv), (15, .int .i64 (j : Int))]) (fun j ds w => ds = [] ∧ (j : Int) ≤ n ∧ Holds w (arr 3 (Value.int .i64) av (farL n (cG s) u.toNat) :: arr 3 (Value.int .i64) bv (farL n (cG s) ((i : Nat) : Int).toNat) :: Rg r n 64 s :: Gh g n 64 s :: base w0 :: [])) (fun j => n.toNat - j) 0 ⟨rfl, rfl, rfl, rfl, rfl, rfl, trivial⟩ ⟨rfl, by omega, Holds.to (by assumption)⟩ ?_
    clear H
    rintro j _ w ⟨rfl, hj, H⟩
    refine W.seq (fun K19 hK19 => ?_)
    refine W.seq (fun K20 hK20 => ?_)
    refine W.region ?_
    refine O.ex (Ex.move rfl) rfl ?_
    refine O.ex (Ex.move rfl) rfl ?_
    refine O.ex (by first | exact Ex.nilPtr rfl | exact Ex.nilFunc rfl | exact Ex.nilYield rfl) rfl ?_
    refine O.ex (by first | exact Ex.field0 fld45_0 rfl | exact Ex.field fld45_0 rfl | exact Ex.fieldS fld45_0 rfl | exact Ex.fieldIn fld45_0 rfl) rfl ?_
    refine O.ex (by first | exact Ex.loadRN Try.isAgg3 rfl | exact Ex.loadMh Try.isAgg3 rfl | exact Ex.loadInF Try.isAgg3 rfl (Holds.to (by assumption)) | exact Ex.loadP Try.isAgg3 rfl | exact Ex.loadM Try.isAgg3 rfl | exact Ex.loadIn1 Try.isAgg3 rfl (Holds.to (by assumption)) | exact Ex.loadVc Try.isAgg3 rfl | exact Ex.loadR Try.isAgg3 rfl | exact Ex.loadQ Try.isAgg3 rfl) rfl ?_
    refine O.ex (Ex.lss rfl rfl) rfl ?_
    refine O.nil ?_
    refine hK20 _ _ _ ?_
    first | refine W.cond_p rfl (fun jlt => ?_) (fun jge => ?_) | refine W.cond_b rfl (fun jlt => ?_) (fun jge => ?_)
    · refine W.skip ?_
      refine hK19 _ _ _ ?_
      refine W.seq (fun K21 hK21 => ?_)
      refine W.block ?_
      refine W.seq (fun K22 hK22 => ?_)
      have hjn : (j : Int) < n := jlt
      have j0 : (0 : Int) ≤ (j : Int) := by omega
      have hjl : (j : Int) < ((farL n (cG s) u.toNat).length : Int) := by rw [hFu]; omega
      have hjb : (j : Int) < ((farL n (cG s) ((i : Nat) : Int).toNat).length : Int) := by rw [hFb]; omega
      have efj : (farL n (cG s) u.toNat).getD ((j : Nat) : Int).toNat default = far n (cG s) u (j : Int) := by rw [farL_get j0 hjn, uT]
      have ebj : (farL n (cG s) ((i : Nat) : Int).toNat).getD ((j : Nat) : Int).toNat default = far n (cG s) (i : Int) (j : Int) := by rw [farL_get j0 hjn, iT]
      have htri : ¬ two (far n (cG s) u (i : Int)) (far n (cG s) (i : Int) (j : Int)) < far n (cG s) u (j : Int) := by have := far_tri hG u (i : Int) (j : Int); omega
      refine W.drawTo (arr 3 (Value.int .i64) av (farL n (cG s) u.toNat) :: arr 3 (Value.int .i64) bv (farL n (cG s) ((i : Nat) : Int).toNat) :: []) (.take 0 (.take 1 (.take 2 (.take 3 (.take 4 (.take 5 (.take 6 (.take 7 (.take 8 (.take 9 (.take 10 (.take 11 (.one 12 (.take 13 .nil)))))))))))))) (mixed) (fun _ _ _ _ h => h) (by assumption) PP.auto (by decide +kernel) (fun w H => ?_)
      refine OQ.ex rfl (fun w H => (Ex.move rfl)) rfl ?_
      refine OQ.ex rfl (fun w H => (Ex.move rfl)) rfl ?_
      refine OQ.ex rfl (fun w H => (by first | exact Ex.idxR Try.runUnderlying28 Try.sizeOf3 rfl rfl | exact Ex.idxIn Try.runUnderlying28 Try.sizeOf3 rfl rfl | exact Ex.idxS Try.runUnderlying28 Try.sizeOf3 rfl rfl | exact Ex.idx Try.runUnderlying28 Try.sizeOf3 rfl rfl (by omega) (by omega))) rfl ?_
      refine OQ.ex rfl (fun w H => (Ex.cast (v := .int .i64 (far n (cG s) u (j : Int))) (Ex.loadR (xs := farL n (cG s) u.toNat) Try.isAgg3 rfl) (by rw [efj]))) rfl ?_
      refine OQ.ex rfl (fun w H => (Ex.move rfl)) rfl ?_
      refine OQ.ex rfl (fun w H => (Ex.move rfl)) rfl ?_
      refine OQ.ex rfl (fun w H => (by first | exact Ex.idxR Try.runUnderlying28 Try.sizeOf3 rfl rfl | exact Ex.idxIn Try.runUnderlying28 Try.sizeOf3 rfl rfl | exact Ex.idxS Try.runUnderlying28 Try.sizeOf3 rfl rfl | exact Ex.idx Try.runUnderlying28 Try.sizeOf3 rfl rfl (by omega) (by omega))) rfl ?_
      refine OQ.ex rfl (fun w H => (Ex.cast (v := .int .i64 (far n (cG s) u (i : Int))) (Ex.loadR (xs := farL n (cG s) u.toNat) Try.isAgg3 rfl) (by rw [efi]))) rfl ?_
      refine OQ.ex rfl (fun w H => (Ex.move rfl)) rfl ?_
      refine OQ.ex rfl (fun w H => (Ex.move rfl)) rfl ?_
      refine OQ.ex rfl (fun w H => (by first | exact Ex.idxR Try.runUnderlying28 Try.sizeOf3 rfl rfl | exact Ex.idxIn Try.runUnderlying28 Try.sizeOf3 rfl rfl | exact Ex.idxS Try.runUnderlying28 Try.sizeOf3 rfl rfl | exact Ex.idx Try.runUnderlying28 Try.sizeOf3 rfl rfl (by omega) (by omega))) rfl ?_
      refine OQ.ex rfl (fun w H => (Ex.cast (v := .int .i64 (far n (cG s) (i : Int) (j : Int))) (Ex.loadR (xs := farL n (cG s) ((i : Nat) : Int).toNat) Try.isAgg3 rfl) (by rw [ebj]))) rfl ?_
      refine OQ.step rfl ?_
      refine O.callF Try.call21 rfl rfl (CT.mono (refTwo_ct (Holds.to (by assumption)) (fw_dst hG n.toNat u (i : Int)) (fw_dst hG n.toNat (i : Int) (j : Int))) ?_)
      rintro _ w ⟨rfl, H⟩
      refine O.thenNil ⟨(by first | exact Holds.to (by assumption) | assumption), ?_⟩
      refine OQ.ex rfl (fun w H => (Ex.gtr rfl rfl)) rfl ?_
      refine OQ.done ?_
      refine hK22 _ _ _ ?_
      refine W.known_f rfl (by first | rfl | decide | exact decide_eq_false hlenu | exact decide_eq_false hzero | exact decide_eq_false hlenb | exact decide_eq_false htri) ?_
      refine W.skip ?_
      refine hK21 _ _ _ ?_
      refine W.region ?_
      refine O.ex (Ex.move rfl) rfl ?_
      refine O.ex (by first | exact Ex.addI rfl rfl | exact Ex.add rfl rfl rfl) rfl ?_
      refine O.ex (Ex.assign rfl) rfl ?_
      refine O.nil ?_
      exact ⟨j + 1, ⟨rfl, rfl, rfl, rfl, rfl, rfl, trivial⟩, ⟨rfl, by omega, Holds.to (by assumption)⟩, by omega⟩
    · refine W.exit ?_
      refine hK14 _ _ _ ?_
      refine W.region ?_
      refine O.ex (Ex.move rfl) rfl ?_
      refine O.ex (by first | exact Ex.addI rfl rfl | exact Ex.add rfl rfl rfl) rfl ?_
      refine O.ex (Ex.assign rfl) rfl ?_
      refine O.nil ?_
      exact ⟨i + 1, ⟨rfl, rfl, rfl, rfl, trivial⟩, ⟨rfl, by omega, Holds.to (by assumption)⟩, by omega⟩
  · refine W.exit ?_
    refine hK10 _ _ _ ?_
    refine W.seq (fun K23 hK23 => ?_)
    refine W.region ?_
    refine O.ex (Ex.assign rfl) rfl ?_
    refine O.nil ?_
    refine hK23 _ _ _ ?_
    refine W.ret ?_
    try dsimp only [thenQ, blockQ, retQ]
    first | refine ⟨_, ⟨_, _, rfl, rfl, rfl⟩, ?_⟩ | (refine retD_mark ?_; intro w H; refine ⟨_, ⟨_, _, rfl, rfl, rfl⟩, ?_⟩) | (refine retD_mark2 ?_; intro w H; refine ⟨_, ⟨_, _, rfl, rfl, rfl⟩, ?_⟩)
    exact ⟨rfl, Holds.base_below (L := []) (Holds.to (by assumption))⟩
theorem nearThird_row {w0 : World} {q z : Int} {lv : Value} {l : List Chg} (hq : (Lit.int .u8 q).wf = true) (hx : SlIn w0 6 Chg.enc lv l) (hg : ∀ x ∈ l, x.ok) (hl : l.length ≤ maxLen) (hz : (Lit.int .u8 z).wf = true) :
    CT Try.prog 4 [.int .u8 q, lv, .int .u8 z] w0 fun x w' => x = .bool true ∧ RowKit.Below w0.heap.size w0 w' :=
  nearThird_ct hq hz hx (by unfold maxLen at hl; omega)
end Go.Proofs.Ytliofdfhimmjmaa
