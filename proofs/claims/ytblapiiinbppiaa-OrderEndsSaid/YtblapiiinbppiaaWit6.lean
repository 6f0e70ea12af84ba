import Derived.Test.YtblapiiinbppiaaWit5
namespace Go.Proofs.Ytblapiiinbppiaa
--ARR
open Go.Rr Go Hp Wt
set_option linter.unusedVariables false
set_option maxHeartbeats 1000000 in
theorem same13_ct {w : World} {N wo T : Nat} {sv dv sv2 dv2 tv2 : Value} {c : Int → Int → Int} {P : List (Int × Int)} {L : List HProp} (hN : N ≤ 24) (hok : Ok N c wo P) (hT : Tq (TQ N c wo P) T)
    (H : Holds w (arr 3 (Value.int .i64) sv (P.map Prod.fst) :: arr 3 (Value.int .i64) dv (P.map Prod.snd) :: arr 3 (Value.int .i64) sv2 (P.map Prod.fst) :: arr 3 (Value.int .i64) dv2 (P.map Prod.snd) :: arr 4 Value.bool tv2 (tl N fun x => decide (TQ N c wo P x)) :: L)) :
    CT Try.prog 35 [.agg #[sv, dv, .int .u64 (T : Int)], .agg #[sv2, dv2, tv2]] w fun u w' => u = .bool true ∧ Holds w' L := by
  have hl1 : (P.map Prod.fst).length ≤ 9223372036854775807 := by rw [List.length_map]; have := hok.len; omega
  have hl2 : (P.map Prod.snd).length ≤ 9223372036854775807 := by rw [List.length_map]; have := hok.len; omega
  have l3 : (tl N fun x => decide (TQ N c wo P x)).length = N := tl_len _
  refine CT.enter (N := 40) Try.func35 rfl rfl rfl rfl ?_
  refine W.seq (fun K0 hK0 => ?_)
  refine W.region ?_
  refine O.boxP rfl (fun b2 w H => ?_)
  refine O.boxP rfl (fun b3 w H => ?_)
  refine O.ex (Ex.assign rfl) rfl ?_
  refine O.nil ?_
  refine hK0 _ _ _ ?_
  refine W.seq (fun K1 hK1 => ?_)
  refine W.seq (fun K2 hK2 => ?_)
  refine W.region ?_
  refine O.ex (Ex.assign rfl) rfl ?_
  refine O.nil ?_
  refine hK2 _ _ _ ?_
  refine W.block ?_
  refine W.loop (σ := Nat) (fun i => [(2, .pointer (some ⟨b2, 0, none⟩)), (3, .pointer (some ⟨b3, 0, none⟩)), (5, .int .i64 (i : Int))]) (fun i ds w => ds = [] ∧ i ≤ N ∧ Holds w (pt b2 (.cells #[sv, dv, .int .u64 (T : Int)] 60 (0, 0)) :: pt b3 (.cells #[sv2, dv2, tv2] 67 (0, 0)) :: arr 3 (Value.int .i64) sv (P.map Prod.fst) :: arr 3 (Value.int .i64) dv (P.map Prod.snd) :: arr 3 (Value.int .i64) sv2 (P.map Prod.fst) :: arr 3 (Value.int .i64) dv2 (P.map Prod.snd) :: arr 4 Value.bool tv2 (tl N fun x => decide (TQ N c wo P x)) :: L)) (fun i => N - i) 0 ⟨rfl, rfl, rfl, trivial⟩ ⟨rfl, by omega, Holds.to (by assumption)⟩ ?_
  clear H
  rintro i _ w ⟨rfl, hi, H⟩
  refine W.seq (fun K3 hK3 => ?_)
  refine W.seq (fun K4 hK4 => ?_)
  refine W.region ?_
  refine O.ex (Ex.move rfl) rfl ?_
  refine O.ex (by first | exact Ex.field0 fld67_2 rfl | exact Ex.field fld67_2 rfl | exact Ex.fieldS fld67_2 rfl) rfl ?_
  refine O.ex (by first | exact Ex.loadMh Try.isAgg65 rfl | exact Ex.loadP Try.isAgg65 rfl | exact Ex.loadM Try.isAgg65 rfl | exact Ex.loadIn1 Try.isAgg65 rfl (Holds.to (by assumption)) | exact Ex.loadVc Try.isAgg65 rfl | exact Ex.loadR Try.isAgg65 rfl | exact Ex.loadQ Try.isAgg65 rfl) rfl ?_
  refine O.ex (by first | exact Ex.lenR Try.runUnderlying65 rfl | exact Ex.lenIn Try.runUnderlying65 rfl | exact Ex.lenL Try.runUnderlying65 rfl | exact Ex.len rfl Try.runUnderlying65 rfl) rfl ?_
  refine O.ex (Ex.lss rfl rfl) rfl ?_
  refine O.nil ?_
  refine hK4 _ _ _ ?_
  first | refine W.cond_p rfl (fun hlt => ?_) (fun hge => ?_) | refine W.cond_b rfl (fun hlt => ?_) (fun hge => ?_)
  · refine W.skip ?_
    refine hK3 _ _ _ ?_
    refine W.seq (fun K5 hK5 => ?_)
    refine W.block ?_
    refine W.seq (fun K6 hK6 => ?_)
    have hiN : i < N := by omega
    have s3 := arr_sl (T := 4) (e := Value.bool) (v := tv2) (xs := tl N fun x => decide (TQ N c wo P x)) (Holds.to (by assumption)) (by omega)
    rw [l3] at s3
    have heq : inS T ((i : Nat) : Int) = (tl N fun x => decide (TQ N c wo P x)).getD ((i : Nat) : Int).toNat default := by
      rw [Int.toNat_natCast, tl_get _ hiN, inS_nat T i (by omega), Bool.eq_iff_iff, hT.2 i (by omega), decide_eq_true_iff]
    refine W.drawTo _ (.take 0 (.take 1 (.take 2 (.take 4 (.take 5 (.take 6 (.take 7 (.take 8 (.one 3 (.take 9 .nil)))))))))) (mixed) (fun _ _ _ _ h => h) (by assumption) (PP.refl _) (by decide +kernel) (fun w H => ?_)
    refine OQ.ex rfl (fun w H => (by first | exact Ex.field0 fld60_2 rfl | exact Ex.field fld60_2 rfl | exact Ex.fieldS fld60_2 rfl)) rfl ?_
    refine OQ.ex rfl (fun w H => (by first | exact Ex.loadMh Try.isAgg58 rfl | exact Ex.loadP Try.isAgg58 rfl | exact Ex.loadM Try.isAgg58 rfl | exact Ex.loadIn1 Try.isAgg58 rfl (Holds.to (by assumption)) | exact Ex.loadVc Try.isAgg58 rfl | exact Ex.loadR Try.isAgg58 rfl | exact Ex.loadQ Try.isAgg58 rfl)) rfl ?_
    refine OQ.ex rfl (fun w H => (Ex.move rfl)) rfl ?_
    refine OQ.ex rfl (fun w H => (by first | exact Ex.field0 fld67_2 rfl | exact Ex.field fld67_2 rfl | exact Ex.fieldS fld67_2 rfl)) rfl ?_
    refine OQ.ex rfl (fun w H => (by first | exact Ex.loadMh Try.isAgg65 rfl | exact Ex.loadP Try.isAgg65 rfl | exact Ex.loadM Try.isAgg65 rfl | exact Ex.loadIn1 Try.isAgg65 rfl (Holds.to (by assumption)) | exact Ex.loadVc Try.isAgg65 rfl | exact Ex.loadR Try.isAgg65 rfl | exact Ex.loadQ Try.isAgg65 rfl)) rfl ?_
    refine OQ.ex rfl (fun w H => (Ex.move rfl)) rfl ?_
    refine OQ.ex rfl (fun w H => (by first | exact Ex.idxR Try.runUnderlying65 Try.sizeOf4 rfl rfl | exact Ex.idxIn Try.runUnderlying65 Try.sizeOf4 rfl rfl | exact Ex.idxS Try.runUnderlying65 Try.sizeOf4 rfl rfl | exact Ex.idx Try.runUnderlying65 Try.sizeOf4 rfl rfl (by omega) (by omega))) rfl ?_
    refine OQ.ex rfl (fun w H => (by first | exact Ex.loadR Try.isAgg4 rfl | exact Ex.loadIn1 Try.isAgg4 rfl (Holds.to (by assumption)) | exact Ex.loadP Try.isAgg4 rfl | exact Ex.loadMh Try.isAgg4 rfl | exact Ex.loadM Try.isAgg4 rfl | exact Ex.loadVc Try.isAgg4 rfl | exact Ex.loadQ Try.isAgg4 rfl)) rfl ?_
    refine OQ.step rfl ?_
    refine O.callF Try.call40 rfl rfl (CT.mono (has_ct (Holds.to (by assumption)) hT.1) ?_)
    rintro _ w ⟨rfl, H⟩
    refine O.thenNil ⟨(by first | exact Holds.to (by assumption) | assumption), ?_⟩
    refine OQ.ex rfl (fun w H => (Ex.neqB Try.runUnderlying4 rfl rfl)) rfl ?_
    refine OQ.done ?_
    refine hK6 _ _ _ ?_
    refine W.known_f rfl (by first | exact decide_eq_true (by have := hT.lt24 hN; omega) | exact decide_eq_false (fun hh => hh heq) | rfl) ?_
    refine W.skip ?_
    refine hK5 _ _ _ ?_
    refine W.region ?_
    refine O.ex (Ex.move rfl) rfl ?_
    refine O.ex (by first | exact Ex.addI rfl rfl | exact Ex.add rfl rfl rfl) rfl ?_
    refine O.ex (Ex.assign rfl) rfl ?_
    refine O.nil ?_
    exact ⟨i + 1, ⟨rfl, rfl, rfl, trivial⟩, ⟨rfl, by omega, Holds.to (by assumption)⟩, by omega⟩
  · refine W.exit ?_
    refine hK1 _ _ _ ?_
    refine W.seq (fun K7 hK7 => ?_)
    refine W.region ?_
    refine O.ex (by first | exact Ex.field0 fld60_2 rfl | exact Ex.field fld60_2 rfl | exact Ex.fieldS fld60_2 rfl) rfl ?_
    refine O.ex (by first | exact Ex.loadMh Try.isAgg58 rfl | exact Ex.loadP Try.isAgg58 rfl | exact Ex.loadM Try.isAgg58 rfl | exact Ex.loadIn1 Try.isAgg58 rfl (Holds.to (by assumption)) | exact Ex.loadVc Try.isAgg58 rfl | exact Ex.loadR Try.isAgg58 rfl | exact Ex.loadQ Try.isAgg58 rfl) rfl ?_
    refine O.ex (Ex.lss rfl rfl) rfl ?_
    refine O.ex (Ex.move rfl) rfl ?_
    refine O.known (t := 26) (c := true) rfl (by first | exact decide_eq_true (by have := hT.lt24 hN; omega) | exact decide_eq_false (fun hh => hh heq) | rfl) ?_
    refine O.guard_t rfl rfl ?_
    refine O.ex (by first | exact Ex.field0 fld60_0 rfl | exact Ex.field fld60_0 rfl | exact Ex.fieldS fld60_0 rfl) rfl ?_
    refine O.guard_t rfl rfl ?_
    refine O.ex (by first | exact Ex.loadMh Try.isAgg51 rfl | exact Ex.loadP Try.isAgg51 rfl | exact Ex.loadM Try.isAgg51 rfl | exact Ex.loadIn1 Try.isAgg51 rfl (Holds.to (by assumption)) | exact Ex.loadVc Try.isAgg51 rfl | exact Ex.loadR Try.isAgg51 rfl | exact Ex.loadQ Try.isAgg51 rfl) rfl ?_
    refine O.guard_t rfl rfl ?_
    refine O.ex (by first | exact Ex.field0 fld67_0 rfl | exact Ex.field fld67_0 rfl | exact Ex.fieldS fld67_0 rfl) rfl ?_
    refine O.guard_t rfl rfl ?_
    refine O.ex (by first | exact Ex.loadMh Try.isAgg51 rfl | exact Ex.loadP Try.isAgg51 rfl | exact Ex.loadM Try.isAgg51 rfl | exact Ex.loadIn1 Try.isAgg51 rfl (Holds.to (by assumption)) | exact Ex.loadVc Try.isAgg51 rfl | exact Ex.loadR Try.isAgg51 rfl | exact Ex.loadQ Try.isAgg51 rfl) rfl ?_
    refine O.guard_t rfl rfl ?_
    refine O.callF Try.call42 rfl rfl (CT.mono (ints_ct (xs := P.map Prod.fst) (Holds.to (by assumption)) hl1) ?_)
    rintro _ w ⟨rfl, H⟩
    refine O.ex (Ex.pick_t rfl rfl) rfl ?_
    refine O.ex (Ex.move rfl) rfl ?_
    refine O.known (t := 33) (c := true) rfl (by first | exact decide_eq_true (by have := hT.lt24 hN; omega) | exact decide_eq_false (fun hh => hh heq) | rfl) ?_
    refine O.guard_t rfl rfl ?_
    refine O.ex (by first | exact Ex.field0 fld60_1 rfl | exact Ex.field fld60_1 rfl | exact Ex.fieldS fld60_1 rfl) rfl ?_
    refine O.guard_t rfl rfl ?_
    refine O.ex (by first | exact Ex.loadMh Try.isAgg51 rfl | exact Ex.loadP Try.isAgg51 rfl | exact Ex.loadM Try.isAgg51 rfl | exact Ex.loadIn1 Try.isAgg51 rfl (Holds.to (by assumption)) | exact Ex.loadVc Try.isAgg51 rfl | exact Ex.loadR Try.isAgg51 rfl | exact Ex.loadQ Try.isAgg51 rfl) rfl ?_
    refine O.guard_t rfl rfl ?_
    refine O.ex (by first | exact Ex.field0 fld67_1 rfl | exact Ex.field fld67_1 rfl | exact Ex.fieldS fld67_1 rfl) rfl ?_
    refine O.guard_t rfl rfl ?_
    refine O.ex (by first | exact Ex.loadMh Try.isAgg51 rfl | exact Ex.loadP Try.isAgg51 rfl | exact Ex.loadM Try.isAgg51 rfl | exact Ex.loadIn1 Try.isAgg51 rfl (Holds.to (by assumption)) | exact Ex.loadVc Try.isAgg51 rfl | exact Ex.loadR Try.isAgg51 rfl | exact Ex.loadQ Try.isAgg51 rfl) rfl ?_
    refine O.guard_t rfl rfl ?_
    refine O.callF Try.call42 rfl rfl (CT.mono (ints_ct (xs := P.map Prod.snd) (Holds.to (by assumption)) hl2) ?_)
    rintro _ w ⟨rfl, H⟩
    refine O.ex (Ex.pick_t rfl rfl) rfl ?_
    refine O.ex (Ex.assign rfl) rfl ?_
    refine O.nil ?_
    refine hK7 _ _ _ ?_
    refine W.ret ?_
    try dsimp only [thenQ, blockQ, retQ]
    first | refine ⟨_, ⟨_, _, rfl, rfl, rfl⟩, ?_⟩ | (refine retD_mark ?_; intro w H; refine ⟨_, ⟨_, _, rfl, rfl, rfl⟩, ?_⟩) | (refine retD_mark2 ?_; intro w H; refine ⟨_, ⟨_, _, rfl, rfl, rfl⟩, ?_⟩)
    exact ⟨rfl, by first | assumption | exact Holds.to (by assumption)⟩
def aw3 : Int → Int → Int := putD 3 (putD 3 (putD 3 noneM 0 1 2) 1 2 3) 0 2 9
def aw4 : Int → Int → Int := putD 3 aw3 0 2 5
theorem aw_a : to 3 aw3 0 2 9 5 1 ∧ stopP 3 aw3 0 2 9 5 1 := ⟨to_of (by decide +kernel), stop_iff.1 (by decide +kernel)⟩
theorem aw_s : st 3 aw3 0 2 1 = [(0, 0)] := by decide +kernel
theorem aw_t : Tq (TQ 3 aw3 2 [(0, 0)]) 5 := ⟨by decide, by decide +kernel⟩
theorem aw_m : two (aw3 0 1) (aw3 1 2) = 5 := by decide +kernel
theorem aw_m4 : two (aw4 0 1) (aw4 1 2) = 5 := by decide +kernel
theorem aw_b : to 3 aw4 0 2 9 5 2 ∧ stopP 3 aw4 0 2 9 5 2 := ⟨to_of (by decide +kernel), stop_iff.1 (by decide +kernel)⟩
theorem aw_s4 : st 3 aw4 0 2 2 = [(0, 0), (2, 5)] := by decide +kernel
set_option maxHeartbeats 1000000 in
theorem awake13_ct {w : World} {L : List HProp} (H : Holds w L) : CT Try.prog 32 [] w fun u w' => u = .bool true ∧ Holds w' L := by
  have g0 := good_none (n := 3) (by omega) (by omega)
  have g1 := good_put g0 0 1 2
  have g2 := good_put g1 1 2 3
  have g3 : Good 3 aw3 := good_put g2 0 2 9
  have g4 : Good 3 aw4 := good_put g3 0 2 5
  have hbn : bitN 1 = 2 := rfl
  refine CT.enter (N := 68) Try.func32 rfl rfl rfl rfl ?_
  refine W.seq (fun K0 hK0 => ?_)
  refine W.region ?_
  refine O.ex (Ex.assign rfl) rfl ?_
  refine O.nil ?_
  refine hK0 _ _ _ ?_
  refine W.seq (fun K1 hK1 => ?_)
  refine W.region ?_
  refine O.callF Try.call20 rfl rfl (CT.mono (new_ct (n := 3) (by assumption)) ?_)
  rintro _ w (⟨hno, -⟩ | ⟨-, m, rfl, H⟩)
  · exact absurd (by omega) hno
  refine O.ex (Ex.move rfl) rfl ?_
  refine O.ex (Ex.extract rfl rfl) rfl ?_
  refine O.ex (Ex.extract rfl rfl) rfl ?_
  refine O.ex (Ex.assign rfl) rfl ?_
  refine O.ex (Ex.assign rfl) rfl ?_
  refine O.nil ?_
  refine hK1 _ _ _ ?_
  refine W.seq (fun K2 hK2 => ?_)
  refine W.seq (fun K3 hK3 => ?_)
  refine W.region ?_
  refine O.ex (Ex.move rfl) rfl ?_
  refine O.ex (Ex.nilEq Try.runUnderlying25 rfl rfl) rfl ?_
  refine O.nil ?_
  refine hK3 _ _ _ ?_
  refine W.known_f rfl (by first | rfl | decide) ?_
  refine W.skip ?_
  refine hK2 _ _ _ ?_
  refine W.seq (fun K4 hK4 => ?_)
  refine W.region ?_
  refine O.ex (Ex.move rfl) rfl ?_
  refine O.callF Try.call22 rfl rfl (CT.mono (put_ct g0 (Holds.to (by assumption))) ?_)
  rintro _ w ⟨-, H⟩
  refine O.nil ?_
  refine hK4 _ _ _ ?_
  refine W.seq (fun K5 hK5 => ?_)
  refine W.region ?_
  refine O.ex (Ex.move rfl) rfl ?_
  refine O.callF Try.call22 rfl rfl (CT.mono (put_ct g1 (Holds.to (by assumption))) ?_)
  rintro _ w ⟨-, H⟩
  refine O.nil ?_
  refine hK5 _ _ _ ?_
  refine W.seq (fun K6 hK6 => ?_)
  refine W.region ?_
  refine O.ex (Ex.move rfl) rfl ?_
  refine O.callF Try.call22 rfl rfl (CT.mono (put_ct g2 (Holds.to (by assumption))) ?_)
  rintro _ w ⟨-, H⟩
  have H : Holds w (Mh m 3 aw3 :: L) := Holds.to H
  refine O.nil ?_
  refine hK6 _ _ _ ?_
  refine W.seq (fun K7 hK7 => ?_)
  refine W.region ?_
  refine O.ex (Ex.move rfl) rfl ?_
  refine O.build1 (e := Value.int .i64) Try.runUnderlying51 Try.sizeOf3 Try.zeroValue3 rfl (fun v23 w hv23 H => ?_)
  refine O.callF Try.call59 rfl rfl (CT.mono (ofA_ct (xs := [1]) (Holds.to (by assumption)) (by simp)) ?_)
  rintro _ w ⟨rfl, H⟩
  refine O.callF Try.call33 rfl rfl (CT.mono (wfind_ct g3 (orL_lt _) (Holds.to (M := Mh m 3 aw3 :: L) (by assumption))) ?_)
  rintro _ w (⟨hno, -⟩ | ⟨-, j, T, sv, dv, hto, hst, hT, rfl, hs1, hd1, H⟩)
  · exact absurd ⟨⟨by omega, by omega⟩, by decide⟩ hno
  rw [orL_one, hbn] at hto hst hT H
  obtain rfl : j = 1 := to_uniq hto hst aw_a.1 aw_a.2
  rw [show (3 : Int).toNat = 3 from rfl, show (0 : Int).toNat = 0 from rfl, aw_s] at H hT
  obtain rfl : T = 5 := hT.uniq aw_t
  refine O.ex (Ex.move rfl) rfl ?_
  refine O.ex (Ex.extract rfl rfl) rfl ?_
  refine O.ex (Ex.extract rfl rfl) rfl ?_
  refine O.allocP Try.zeroValue60 (fun b3 w H => ?_)
  refine O.storeAggP Try.sizeOf60 rfl rfl rfl (all3 hs1 hd1 rfl) (fun w H => ?_)
  refine O.ex (Ex.assign rfl) rfl ?_
  refine O.nil ?_
  refine hK7 _ _ _ ?_
  refine W.seq (fun K8 hK8 => ?_)
  refine W.region ?_
  refine O.ex (Ex.move rfl) rfl ?_
  refine O.callF Try.call37 rfl rfl (CT.mono (spared_ct g3 (Holds.to (by assumption))) ?_)
  rintro _ w (⟨hno, -⟩ | ⟨-, j2, hto2, hst2, rfl, H⟩)
  · exact absurd (by decide) hno
  rw [hbn, aw_m] at hto2 hst2
  obtain rfl : j2 = 1 := to_uniq hto2 hst2 aw_a.1 aw_a.2
  rw [show (3 : Int).toNat = 3 from rfl, show (0 : Int).toNat = 0 from rfl, hbn, aw_s]
  refine O.ex (Ex.move rfl) rfl ?_
  refine O.ex (Ex.extract rfl rfl) rfl ?_
  refine O.ex (Ex.extract rfl rfl) rfl ?_
  refine O.ex (Ex.assign rfl) rfl ?_
  refine O.ex (Ex.assign rfl) rfl ?_
  refine O.nil ?_
  refine hK8 _ _ _ ?_
  refine W.seq (fun K9 hK9 => ?_)
  refine W.region ?_
  refine O.ex (Ex.move rfl) rfl ?_
  refine O.callF Try.call22 rfl rfl (CT.mono (put_ct g3 (Holds.to (by assumption))) ?_)
  rintro _ w ⟨-, H⟩
  refine O.nil ?_
  refine hK9 _ _ _ ?_
  refine W.seq (fun K10 hK10 => ?_)
  refine W.region ?_
  refine O.ex (Ex.move rfl) rfl ?_
  refine O.callF Try.call37 rfl rfl (CT.mono (spared_ct g4 (Holds.to (by assumption))) ?_)
  rintro _ w (⟨hno, -⟩ | ⟨-, j3, hto3, hst3, rfl, H⟩)
  · exact absurd (by decide) hno
  rw [hbn, aw_m4] at hto3 hst3
  obtain rfl : j3 = 2 := to_uniq hto3 hst3 aw_b.1 aw_b.2
  rw [show (3 : Int).toNat = 3 from rfl, show (0 : Int).toNat = 0 from rfl, hbn, aw_s4]
  refine O.ex (Ex.move rfl) rfl ?_
  refine O.ex (Ex.extract rfl rfl) rfl ?_
  refine O.ex (Ex.extract rfl rfl) rfl ?_
  refine O.ex (Ex.assign rfl) rfl ?_
  refine O.ex (Ex.assign rfl) rfl ?_
  refine O.nil ?_
  refine hK10 _ _ _ ?_
  refine W.seq (fun K11 hK11 => ?_)
  refine W.region ?_
  refine O.ex (by first | exact Ex.field0 fld60_0 rfl | exact Ex.field fld60_0 rfl | exact Ex.fieldS fld60_0 rfl) rfl ?_
  refine O.ex (by first | exact Ex.loadMh Try.isAgg51 rfl | exact Ex.loadP Try.isAgg51 rfl | exact Ex.loadM Try.isAgg51 rfl | exact Ex.loadIn1 Try.isAgg51 rfl (Holds.to (by assumption)) | exact Ex.loadVc Try.isAgg51 rfl | exact Ex.loadR Try.isAgg51 rfl | exact Ex.loadQ Try.isAgg51 rfl) rfl ?_
  refine O.build1 (e := Value.int .i64) Try.runUnderlying51 Try.sizeOf3 Try.zeroValue3 rfl (fun v42 w hv42 H => ?_)
  refine O.callF Try.call42 rfl rfl (CT.mono (ints_ct (xs := [0]) (Holds.to (by assumption)) (by simp)) ?_)
  rintro _ w ⟨rfl, H⟩
  refine O.ex (Ex.move rfl) rfl ?_
  refine O.known (t := 44) (c := true) rfl (by first | rfl | decide) ?_
  refine O.guard_t rfl rfl ?_
  refine O.ex (by first | exact Ex.field0 fld60_2 rfl | exact Ex.field fld60_2 rfl | exact Ex.fieldS fld60_2 rfl) rfl ?_
  refine O.guard_t rfl rfl ?_
  refine O.ex (by first | exact Ex.loadMh Try.isAgg58 rfl | exact Ex.loadP Try.isAgg58 rfl | exact Ex.loadM Try.isAgg58 rfl | exact Ex.loadIn1 Try.isAgg58 rfl (Holds.to (by assumption)) | exact Ex.loadVc Try.isAgg58 rfl | exact Ex.loadR Try.isAgg58 rfl | exact Ex.loadQ Try.isAgg58 rfl) rfl ?_
  refine O.guard_t rfl rfl ?_
  refine O.ex (Ex.eql64 _ 5 rfl rfl) rfl ?_
  refine O.ex (Ex.pick_t rfl rfl) rfl ?_
  refine O.ex (Ex.move rfl) rfl ?_
  refine O.known (t := 49) (c := true) rfl (by first | rfl | decide) ?_
  refine O.guard_t rfl rfl ?_
  refine O.ex (Ex.move rfl) rfl ?_
  refine O.guard_t rfl rfl ?_
  refine O.ex (Ex.eqlI rfl rfl) rfl ?_
  refine O.ex (Ex.pick_t rfl rfl) rfl ?_
  refine O.ex (Ex.move rfl) rfl ?_
  refine O.known (t := 53) (c := true) rfl (by first | rfl | decide) ?_
  refine O.guard_t rfl rfl ?_
  refine O.ex (Ex.move rfl) rfl ?_
  refine O.guard_t rfl rfl ?_
  refine O.ex (by first | exact Ex.notD rfl | exact Ex.not rfl) rfl ?_
  refine O.ex (Ex.pick_t rfl rfl) rfl ?_
  refine O.ex (Ex.move rfl) rfl ?_
  refine O.known (t := 57) (c := true) rfl (by first | rfl | decide) ?_
  refine O.guard_t rfl rfl ?_
  refine O.ex (Ex.move rfl) rfl ?_
  refine O.guard_t rfl rfl ?_
  refine O.ex (Ex.eqlI rfl rfl) rfl ?_
  refine O.ex (Ex.pick_t rfl rfl) rfl ?_
  refine O.ex (Ex.move rfl) rfl ?_
  refine O.known (t := 61) (c := true) rfl (by first | rfl | decide) ?_
  refine O.guard_t rfl rfl ?_
  refine O.ex (Ex.move rfl) rfl ?_
  refine O.ex (Ex.pick_t rfl rfl) rfl ?_
  refine O.ex (Ex.move rfl) rfl ?_
  refine O.known (t := 64) (c := true) rfl (by first | rfl | decide) ?_
  refine O.guard_t rfl rfl ?_
  refine O.ex (Ex.move rfl) rfl ?_
  refine O.guard_t rfl rfl ?_
  refine O.ex (Ex.eqlI rfl rfl) rfl ?_
  refine O.ex (Ex.pick_t rfl rfl) rfl ?_
  refine O.ex (Ex.assign rfl) rfl ?_
  refine O.nil ?_
  refine hK11 _ _ _ ?_
  refine W.ret ?_
  try dsimp only [thenQ, blockQ, retQ]
  first | refine ⟨_, ⟨_, _, rfl, rfl, rfl⟩, ?_⟩ | (refine retD_mark ?_; intro w H; refine ⟨_, ⟨_, _, rfl, rfl, rfl⟩, ?_⟩) | (refine retD_mark2 ?_; intro w H; refine ⟨_, ⟨_, _, rfl, rfl, rfl⟩, ?_⟩)
  exact ⟨rfl, by first | assumption | exact Holds.to (by assumption)⟩
end Go.Proofs.Ytblapiiinbppiaa
