import Derived.Test.YtakmbbgnnbpkoaaUndoRef
--ARR
--DEEP
namespace Go.Proofs.Ytakmbbgnnbpkoaa
open Go.Rr Go Gr
set_option linter.unusedVariables false
set_option linter.unusedSimpArgs false
set_option maxHeartbeats 2000000 in
theorem rundoS_ct {w : World} {r k : Nat} {n most : Int} {s s0 : St} {a : Arc} {h : List (St × Arc)} {L : List HProp} (hlen : h.length ≤ 32) (H : Holds w (RB r k n most s (h ++ [(s0, a)]) :: L)) :
    CT Try.prog 56 [.pointer (some ⟨r, 0, none⟩)] w fun u w' => u = .tuple #[.agg (ecs s s0 a), .int .i64 0] ∧ Holds w' (RB r k n most s0 h :: L) := by
  obtain ⟨g, v1, v2, HO⟩ := rb_open.1 H
  obtain ⟨ws, hws⟩ : ∃ ws, ws = h.map Prod.fst := ⟨_, rfl⟩
  obtain ⟨az, haz⟩ : ∃ az, az = h.map Prod.snd := ⟨_, rfl⟩
  have H : Holds w (pt r (.cells (rbc g k v1 v2) 107 (0, 0)) :: Rg g n most s :: arrN TG 322 (gE n most) v1 (ws ++ [s0]) :: arrN TA 4 aE v2 (az ++ [a]) :: L) := by
    have H := rbo_open.1 HO
    rw [List.map_append, List.map_append] at H
    rw [hws, haz]; exact H
  have hl1 : (ws ++ [s0]).length = ws.length + 1 := by simp
  have hl2 : (az ++ [a]).length = az.length + 1 := by simp
  have hl3 : az.length = ws.length := by rw [hws, haz, List.length_map, List.length_map]
  have hv1 : v1.oneCell' = true := arrN_one (e := gE n most) (Holds.to (M := arrN TG 322 (gE n most) v1 (ws ++ [s0]) :: []) H)
  have hv2 : v2.oneCell' = true := arrN_one (e := aE) (Holds.to (M := arrN TA 4 aE v2 (az ++ [a]) :: []) H)
  have hi1 : (((ws ++ [s0]).length : Int) - 1).toNat = ws.length := by omega
  have hwl : ws.length ≤ 32 := by have := hlen; rw [hws, List.length_map]; omega
  have hi2 : (((ws ++ [s0]).length : Int) - 1).toNat = az.length := by omega
  obtain ⟨x1, hx1⟩ : ∃ x, x = hiV v1 (((ws ++ [s0]).length : Int) - 1).toNat := ⟨_, rfl⟩
  obtain ⟨x2, hx2⟩ : ∃ x, x = hiV v2 (((ws ++ [s0]).length : Int) - 1).toNat := ⟨_, rfl⟩
  have hx1o : x1.oneCell' = true := by rw [hx1]; exact arrN_hi_one (e := gE n most) (Holds.to (M := arrN TG 322 (gE n most) v1 (ws ++ [s0]) :: []) H) _
  have hx2o : x2.oneCell' = true := by rw [hx2]; exact arrN_hi_one (e := aE) (Holds.to (M := arrN TA 4 aE v2 (az ++ [a]) :: []) H) _
  refine CT.enter (N := 68) Try.func56 rfl rfl rfl rfl ?_
  refine W.seq (fun K0 hK0 => ?_)
  refine W.region ?_
  refine O.allocP Try.zeroValue96 (fun b2 w H => ?_)
  refine O.ex (Ex.assign rfl) rfl ?_
  refine O.nil ?_
  refine hK0 _ _ _ ?_
  refine W.seq (fun K1 hK1 => ?_)
  refine W.region ?_
  refine O.ex (Ex.move rfl) rfl ?_
  refine O.ex (by first | exact Ex.nilPtr rfl | exact Ex.nilFunc rfl | exact Ex.nilYield rfl) rfl ?_
  refine O.ex (by first | exact Ex.field0 fld107_2 rfl | exact Ex.field fld107_2 rfl | exact Ex.fieldS fld107_2 rfl) rfl ?_
  refine O.ex (by first | exact Ex.loadMh Try.isAgg104 rfl | exact Ex.loadP Try.isAgg104 rfl | exact Ex.loadM Try.isAgg104 rfl | exact Ex.loadIn1 Try.isAgg104 rfl (Holds.to (by assumption)) | exact Ex.loadVc Try.isAgg104 rfl | exact Ex.loadR Try.isAgg104 rfl | exact Ex.loadQ Try.isAgg104 rfl) rfl ?_
  refine O.ex (by first | exact Ex.lenN Try.runUnderlying104 rfl | exact Ex.lenIn Try.runUnderlying104 rfl | exact Ex.lenL Try.runUnderlying104 rfl | exact Ex.len rfl Try.runUnderlying104 rfl) rfl ?_
  refine O.ex (Ex.assign rfl) rfl ?_
  refine O.nil ?_
  refine hK1 _ _ _ ?_
  refine W.seq (fun K2 hK2 => ?_)
  refine W.seq (fun K3 hK3 => ?_)
  refine W.region ?_
  refine O.ex (Ex.move rfl) rfl ?_
  refine O.ex (Ex.eqlI rfl rfl) rfl ?_
  refine O.nil ?_
  refine hK3 _ _ _ ?_
  refine W.known_f rfl (decide_eq_false (by omega)) ?_
  refine W.skip ?_
  refine hK2 _ _ _ ?_
  refine W.seq (fun K4 hK4 => ?_)
  refine W.region ?_
  refine O.ex (Ex.move rfl) rfl ?_
  refine O.ex (by first | exact Ex.nilPtr rfl | exact Ex.nilFunc rfl | exact Ex.nilYield rfl) rfl ?_
  refine O.ex (by first | exact Ex.field0 fld107_0 rfl | exact Ex.field fld107_0 rfl | exact Ex.fieldS fld107_0 rfl) rfl ?_
  refine O.ex (by first | exact Ex.loadMh Try.isAgg25 rfl | exact Ex.loadP Try.isAgg25 rfl | exact Ex.loadM Try.isAgg25 rfl | exact Ex.loadIn1 Try.isAgg25 rfl (Holds.to (by assumption)) | exact Ex.loadVc Try.isAgg25 rfl | exact Ex.loadR Try.isAgg25 rfl | exact Ex.loadQ Try.isAgg25 rfl) rfl ?_
  refine O.ex (by first | exact Ex.nilPtr rfl | exact Ex.nilFunc rfl | exact Ex.nilYield rfl) rfl ?_
  refine O.ex (Ex.loadRg Try.isAgg54 Try.sizeOf54 rfl) rfl ?_
  refine O.allocC rZ rfl (fun b5 w H => ?_)
  refine O.storeRg Try.sizeOf54 rfl rfl (fun w H => ?_) H
  have H : Holds w (Rg b5 n most s :: pt r (.cells (rbc g k v1 v2) 107 (0, 0)) :: pt b2 (.cells ezc 96 (0, 0)) :: Rg g n most s :: arrN TG 322 (gE n most) v1 (ws ++ [s0]) :: arrN TA 4 aE v2 (az ++ [a]) :: L) := Holds.to H
  refine O.nil ?_
  refine hK4 _ _ _ ?_
  refine W.seq (fun K5 hK5 => ?_)
  refine W.drawTo (pt r (.cells (rbc g k v1 v2) 107 (0, 0)) :: arrN TG 322 (gE n most) v1 (ws ++ [s0]) :: []) (.take 0 (.take 1 (.take 2 (.take 3 (.take 4 (.take 5 (.take 6 (.take 7 (.take 8 (.take 9 (.take 10 (.take 11 (.take 12 (.one 13 .nil)))))))))))))) (mixed) (fun _ _ _ _ h => h) (by assumption) PP.auto (by decide +kernel) (fun w H => ?_)
  refine OQ.ex rfl (fun w H => (Ex.move rfl)) rfl ?_
  refine OQ.ex rfl (fun w H => (by first | exact Ex.nilPtr rfl | exact Ex.nilFunc rfl | exact Ex.nilYield rfl)) rfl ?_
  refine OQ.ex rfl (fun w H => (by first | exact Ex.field0 fld107_0 rfl | exact Ex.field fld107_0 rfl | exact Ex.fieldS fld107_0 rfl)) rfl ?_
  refine OQ.ex rfl (fun w H => (by first | exact Ex.loadMh Try.isAgg25 rfl | exact Ex.loadP Try.isAgg25 rfl | exact Ex.loadM Try.isAgg25 rfl | exact Ex.loadIn1 Try.isAgg25 rfl (Holds.to (by assumption)) | exact Ex.loadVc Try.isAgg25 rfl | exact Ex.loadR Try.isAgg25 rfl | exact Ex.loadQ Try.isAgg25 rfl)) rfl ?_
  refine OQ.ex rfl (fun w H => (Ex.move rfl)) rfl ?_
  refine OQ.ex rfl (fun w H => (by first | exact Ex.nilPtr rfl | exact Ex.nilFunc rfl | exact Ex.nilYield rfl)) rfl ?_
  refine OQ.ex rfl (fun w H => (by first | exact Ex.field0 fld107_2 rfl | exact Ex.field fld107_2 rfl | exact Ex.fieldS fld107_2 rfl)) rfl ?_
  refine OQ.ex rfl (fun w H => (by first | exact Ex.loadMh Try.isAgg104 rfl | exact Ex.loadP Try.isAgg104 rfl | exact Ex.loadM Try.isAgg104 rfl | exact Ex.loadIn1 Try.isAgg104 rfl (Holds.to (by assumption)) | exact Ex.loadVc Try.isAgg104 rfl | exact Ex.loadR Try.isAgg104 rfl | exact Ex.loadQ Try.isAgg104 rfl)) rfl ?_
  refine OQ.ex rfl (fun w H => (Ex.move rfl)) rfl ?_
  refine OQ.ex rfl (fun w H => (by first | exact Ex.subI rfl rfl | exact Ex.sub rfl rfl rfl)) rfl ?_
  refine OQ.ex rfl (fun w H => (by first | exact Ex.idxN Try.runUnderlying104 Try.sizeOf54 rfl rfl | exact Ex.idxSN Try.runUnderlying104 Try.sizeOf54 rfl rfl | exact Ex.idxIn Try.runUnderlying104 Try.sizeOf54 rfl rfl | exact Ex.idx Try.runUnderlying104 Try.sizeOf54 rfl rfl (by omega) (by omega))) rfl ?_
  refine OQ.ex rfl (fun w H => (Ex.loadLastN (i := ((ws ++ [s0]).length : Int) - 1) Try.isAgg54 Try.sizeOf54 rfl gE_len hi1 (Holds.to (by assumption)))) rfl ?_
  refine OQ.ex rfl (fun w H => (by first | exact Ex.nilPtr rfl | exact Ex.nilFunc rfl | exact Ex.nilYield rfl)) rfl ?_
  refine OQ.last rfl (by decide +kernel) ?_
  refine O.storeRg (r := g) Try.sizeOf54 rfl rfl (fun w H => ?_) (Holds.to (M := Rg g n most s :: Rg b5 n most s :: pt r (.cells (rbc g k v1 v2) 107 (0, 0)) :: pt b2 (.cells ezc 96 (0, 0)) :: arrN TG 322 (gE n most) v1 (ws ++ [s0]) :: arrN TA 4 aE v2 (az ++ [a]) :: L) (by assumption))
  refine O.nil ?_
  refine hK5 _ _ _ ?_
  refine W.seq (fun K6 hK6 => ?_)
  refine W.region ?_
  refine O.ex (Ex.move rfl) rfl ?_
  refine O.ex (by first | exact Ex.nilPtr rfl | exact Ex.nilFunc rfl | exact Ex.nilYield rfl) rfl ?_
  refine O.ex (by first | exact Ex.field0 fld107_3 rfl | exact Ex.field fld107_3 rfl | exact Ex.fieldS fld107_3 rfl) rfl ?_
  refine O.ex (by first | exact Ex.loadMh Try.isAgg105 rfl | exact Ex.loadP Try.isAgg105 rfl | exact Ex.loadM Try.isAgg105 rfl | exact Ex.loadIn1 Try.isAgg105 rfl (Holds.to (by assumption)) | exact Ex.loadVc Try.isAgg105 rfl | exact Ex.loadR Try.isAgg105 rfl | exact Ex.loadQ Try.isAgg105 rfl) rfl ?_
  refine O.ex (Ex.move rfl) rfl ?_
  refine O.ex (by first | exact Ex.subI rfl rfl | exact Ex.sub rfl rfl rfl) rfl ?_
  refine O.ex (by first | exact Ex.idxN Try.runUnderlying105 Try.sizeOf31 rfl rfl | exact Ex.idxSN Try.runUnderlying105 Try.sizeOf31 rfl rfl | exact Ex.idxIn Try.runUnderlying105 Try.sizeOf31 rfl rfl | exact Ex.idx Try.runUnderlying105 Try.sizeOf31 rfl rfl (by omega) (by omega)) rfl ?_
  refine O.ex (Ex.loadLastN (i := ((ws ++ [s0]).length : Int) - 1) Try.isAgg31 Try.sizeOf31 rfl aE_len hi2 (Holds.to (M := arrN TA 4 aE v2 (az ++ [a]) :: []) (by assumption))) rfl ?_
  refine O.allocP Try.zeroValue31 (fun b6 w H => ?_)
  first | refine O.storeAggP Try.sizeOf31 rfl rfl rfl rfl (fun w H => ?_) | refine O.storeAggN Try.sizeOf31 rfl rfl rfl (fun w H => ?_) rfl
  have H : Holds w (pt b6 (.cells (acs a) 31 (0, 0)) :: Rg g n most s0 :: Rg b5 n most s :: pt r (.cells (rbc g k v1 v2) 107 (0, 0)) :: pt b2 (.cells ezc 96 (0, 0)) :: arrN TG 322 (gE n most) v1 (ws ++ [s0]) :: arrN TA 4 aE v2 (az ++ [a]) :: L) := Holds.to H
  refine O.nil ?_
  refine hK6 _ _ _ ?_
  refine W.seq (fun K7 hK7 => ?_)
  refine W.region ?_
  refine O.ex (Ex.move rfl) rfl ?_
  refine O.ex (Ex.move rfl) rfl ?_
  refine O.ex (by first | exact Ex.nilPtr rfl | exact Ex.nilFunc rfl | exact Ex.nilYield rfl) rfl ?_
  refine O.ex (by first | exact Ex.field0 fld107_2 rfl | exact Ex.field fld107_2 rfl | exact Ex.fieldS fld107_2 rfl) rfl ?_
  refine O.ex (by first | exact Ex.loadMh Try.isAgg104 rfl | exact Ex.loadP Try.isAgg104 rfl | exact Ex.loadM Try.isAgg104 rfl | exact Ex.loadIn1 Try.isAgg104 rfl (Holds.to (by assumption)) | exact Ex.loadVc Try.isAgg104 rfl | exact Ex.loadR Try.isAgg104 rfl | exact Ex.loadQ Try.isAgg104 rfl) rfl ?_
  refine O.ex (Ex.move rfl) rfl ?_
  refine O.ex (by first | exact Ex.subI rfl rfl | exact Ex.sub rfl rfl rfl) rfl ?_
  refine O.ex (v := x1) (by rw [hx1]; exact Ex.sliceHiA (e := gE n most) (xs := ws ++ [s0]) Try.runUnderlying104 Try.sizeOf54 rfl rfl (Holds.to (by assumption))) rfl ?_
  refine O.ex (by first | exact Ex.nilPtr rfl | exact Ex.nilFunc rfl | exact Ex.nilYield rfl) rfl ?_
  refine O.ex (by first | exact Ex.field0 fld107_2 rfl | exact Ex.field fld107_2 rfl | exact Ex.fieldS fld107_2 rfl) rfl ?_
  first | refine O.storeP Try.sizeOf104 rfl rfl (fun w H => ?_) | refine O.storeR Try.sizeOf104 rfl rfl (fun w H => ?_) | refine O.storeM Try.sizeOf104 rfl rfl (fun w H => ?_) | refine O.storeVc Try.sizeOf104 rfl rfl (fun w H => ?_) | refine O.storeQ Try.sizeOf104 rfl rfl (fun w H => ?_)
  replace H := arrN_pop (e := gE n most) (xs := ws) (z := s0) gE_len hi1 (Holds.to (M := arrN TG 322 (gE n most) v1 (ws ++ [s0]) :: pt r (.cells (rbc g k x1 v2) 107 (0, 0)) :: pt b6 (.cells (acs a) 31 (0, 0)) :: Rg g n most s0 :: Rg b5 n most s :: pt b2 (.cells ezc 96 (0, 0)) :: arrN TA 4 aE v2 (az ++ [a]) :: L) H)
  rw [← hx1] at H
  refine O.nil ?_
  refine hK7 _ _ _ ?_
  refine W.seq (fun K8 hK8 => ?_)
  refine W.region ?_
  refine O.ex (Ex.move rfl) rfl ?_
  refine O.ex (Ex.move rfl) rfl ?_
  refine O.ex (by first | exact Ex.nilPtr rfl | exact Ex.nilFunc rfl | exact Ex.nilYield rfl) rfl ?_
  refine O.ex (by first | exact Ex.field0 fld107_3 rfl | exact Ex.field fld107_3 rfl | exact Ex.fieldS fld107_3 rfl) rfl ?_
  refine O.ex (by first | exact Ex.loadMh Try.isAgg105 rfl | exact Ex.loadP Try.isAgg105 rfl | exact Ex.loadM Try.isAgg105 rfl | exact Ex.loadIn1 Try.isAgg105 rfl (Holds.to (by assumption)) | exact Ex.loadVc Try.isAgg105 rfl | exact Ex.loadR Try.isAgg105 rfl | exact Ex.loadQ Try.isAgg105 rfl) rfl ?_
  refine O.ex (Ex.move rfl) rfl ?_
  refine O.ex (by first | exact Ex.subI rfl rfl | exact Ex.sub rfl rfl rfl) rfl ?_
  refine O.ex (v := x2) (by rw [hx2]; exact Ex.sliceHiA (e := aE) (xs := az ++ [a]) Try.runUnderlying105 Try.sizeOf31 rfl rfl (Holds.to (by assumption))) rfl ?_
  refine O.ex (by first | exact Ex.nilPtr rfl | exact Ex.nilFunc rfl | exact Ex.nilYield rfl) rfl ?_
  refine O.ex (by first | exact Ex.field0 fld107_3 rfl | exact Ex.field fld107_3 rfl | exact Ex.fieldS fld107_3 rfl) rfl ?_
  first | refine O.storeP Try.sizeOf105 rfl rfl (fun w H => ?_) | refine O.storeR Try.sizeOf105 rfl rfl (fun w H => ?_) | refine O.storeM Try.sizeOf105 rfl rfl (fun w H => ?_) | refine O.storeVc Try.sizeOf105 rfl rfl (fun w H => ?_) | refine O.storeQ Try.sizeOf105 rfl rfl (fun w H => ?_)
  replace H := arrN_pop (e := aE) (xs := az) (z := a) aE_len hi2 (Holds.to (M := arrN TA 4 aE v2 (az ++ [a]) :: arrN TG 322 (gE n most) x1 ws :: pt r (.cells (rbc g k x1 x2) 107 (0, 0)) :: pt b6 (.cells (acs a) 31 (0, 0)) :: Rg g n most s0 :: Rg b5 n most s :: pt b2 (.cells ezc 96 (0, 0)) :: L) H)
  rw [← hx2] at H
  refine O.nil ?_
  refine hK8 _ _ _ ?_
  refine W.seq (fun K9 hK9 => ?_)
  refine W.drawTo (pt r (.cells (rbc g k x1 x2) 107 (0, 0)) :: pt b6 (.cells (acs a) 31 (0, 0)) :: []) (.take 0 (.take 1 (.take 2 (.take 3 (.take 4 (.one 5 (.one 6 (.take 7 .nil)))))))) (mixed) (fun _ _ _ _ h => h) (by assumption) PP.auto (by decide +kernel) (fun w H => ?_)
  refine OQ.ex rfl (fun w H => (by first | exact Ex.loadAggP Try.isAgg31 Try.sizeOf31 rfl | exact Ex.loadAggN Try.isAgg31 Try.sizeOf31 rfl | exact Ex.loadIn Try.isAgg31 Try.sizeOf31 rfl (Holds.to (by assumption)))) rfl ?_
  refine OQ.ex rfl (fun w H => (Ex.move rfl)) rfl ?_
  refine OQ.ex rfl (fun w H => (by first | exact Ex.nilPtr rfl | exact Ex.nilFunc rfl | exact Ex.nilYield rfl)) rfl ?_
  refine OQ.ex rfl (fun w H => (by first | exact Ex.field0 fld107_0 rfl | exact Ex.field fld107_0 rfl | exact Ex.fieldS fld107_0 rfl)) rfl ?_
  refine OQ.ex rfl (fun w H => (by first | exact Ex.loadMh Try.isAgg25 rfl | exact Ex.loadP Try.isAgg25 rfl | exact Ex.loadM Try.isAgg25 rfl | exact Ex.loadIn1 Try.isAgg25 rfl (Holds.to (by assumption)) | exact Ex.loadVc Try.isAgg25 rfl | exact Ex.loadR Try.isAgg25 rfl | exact Ex.loadQ Try.isAgg25 rfl)) rfl ?_
  refine OQ.step rfl ?_
  refine O.callF Try.call96 rfl rfl (CT.mono (rends_ct (r1 := b5) (r2 := g) (a := a) (Holds.to (M := Rg b5 n most s :: Rg g n most s0 :: pt r (.cells (rbc g k x1 x2) 107 (0, 0)) :: pt b6 (.cells (acs a) 31 (0, 0)) :: pt b2 (.cells ezc 96 (0, 0)) :: arrN TG 322 (gE n most) x1 ws :: arrN TA 4 aE x2 az :: L) (by assumption))) ?_)
  rintro _ w ⟨rfl, H⟩
  refine O.thenNil ⟨(by first | exact Holds.to (by assumption) | assumption), ?_⟩
  refine OQ.step rfl ?_
  first | refine O.storeAggP Try.sizeOf96 rfl rfl rfl rfl (fun w H => ?_) | refine O.storeAggN Try.sizeOf96 rfl rfl rfl (fun w H => ?_) rfl
  have H := (show Holds w (pt b2 (.cells (ecs s s0 a) 96 (0, 0)) :: _) from H)
  refine O.thenNil ⟨(by first | exact Holds.to (by assumption) | assumption), ?_⟩
  refine OQ.ex rfl (fun w H => (Ex.assign rfl)) rfl ?_
  refine OQ.done ?_
  refine hK9 _ _ _ ?_
  refine W.ret ?_
  try dsimp only [thenQ, blockQ, retQ]
  first | refine ⟨_, ⟨_, _, _, rfl, rfl, (by first | exact loadVar_mtx Try.isAgg96 Try.sizeOf96 | exact loadVar_agg Try.isAgg96 Try.sizeOf96), _, _, rfl, rfl, rfl⟩, ?_⟩ | (refine retD_mark ?_; intro w H; refine ⟨_, ⟨_, _, _, rfl, rfl, (by first | exact loadVar_mtx Try.isAgg96 Try.sizeOf96 | exact loadVar_agg Try.isAgg96 Try.sizeOf96), _, _, rfl, rfl, rfl⟩, ?_⟩) | (refine retD_mark2 ?_; intro w H; refine ⟨_, ⟨_, _, _, rfl, rfl, (by first | exact loadVar_mtx Try.isAgg96 Try.sizeOf96 | exact loadVar_agg Try.isAgg96 Try.sizeOf96), _, _, rfl, rfl, rfl⟩, ?_⟩)
  refine ⟨rfl, rb_open.2 ⟨g, x1, x2, rbo_open.2 ?_⟩⟩
  rw [← hws, ← haz]
  exact Holds.to (by assumption)
theorem rundoN_ct {w : World} {r k : Nat} {n most : Int} {s : St} {L : List HProp} (H : Holds w (RB r k n most s [] :: L)) :
    CT Try.prog 56 [.pointer (some ⟨r, 0, none⟩)] w fun u w' => u = .tuple #[.agg ezc, .int .i64 6] ∧ Holds w' (RB r k n most s [] :: L) := by
  obtain ⟨g, v1, v2, HO⟩ := rb_open.1 H
  have H : Holds w (pt r (.cells (rbc g k v1 v2) 107 (0, 0)) :: Rg g n most s :: arrN TG 322 (gE n most) v1 [] :: arrN TA 4 aE v2 [] :: L) := rbo_open.1 HO
  refine CT.enter (N := 68) Try.func56 rfl rfl rfl rfl ?_
  refine W.seq (fun K0 hK0 => ?_)
  refine W.region ?_
  refine O.allocP Try.zeroValue96 (fun b2 w H => ?_)
  refine O.ex (Ex.assign rfl) rfl ?_
  refine O.nil ?_
  refine hK0 _ _ _ ?_
  refine W.seq (fun K1 hK1 => ?_)
  refine W.region ?_
  refine O.ex (Ex.move rfl) rfl ?_
  refine O.ex (by first | exact Ex.nilPtr rfl | exact Ex.nilFunc rfl | exact Ex.nilYield rfl) rfl ?_
  refine O.ex (by first | exact Ex.field0 fld107_2 rfl | exact Ex.field fld107_2 rfl | exact Ex.fieldS fld107_2 rfl) rfl ?_
  refine O.ex (by first | exact Ex.loadMh Try.isAgg104 rfl | exact Ex.loadP Try.isAgg104 rfl | exact Ex.loadM Try.isAgg104 rfl | exact Ex.loadIn1 Try.isAgg104 rfl (Holds.to (by assumption)) | exact Ex.loadVc Try.isAgg104 rfl | exact Ex.loadR Try.isAgg104 rfl | exact Ex.loadQ Try.isAgg104 rfl) rfl ?_
  refine O.ex (by first | exact Ex.lenN Try.runUnderlying104 rfl | exact Ex.lenIn Try.runUnderlying104 rfl | exact Ex.lenL Try.runUnderlying104 rfl | exact Ex.len rfl Try.runUnderlying104 rfl) rfl ?_
  refine O.ex (Ex.assign rfl) rfl ?_
  refine O.nil ?_
  refine hK1 _ _ _ ?_
  refine W.seq (fun K2 hK2 => ?_)
  refine W.seq (fun K3 hK3 => ?_)
  refine W.region ?_
  refine O.ex (Ex.move rfl) rfl ?_
  refine O.ex (Ex.eqlI rfl rfl) rfl ?_
  refine O.nil ?_
  refine hK3 _ _ _ ?_
  refine W.known_t rfl (by first | rfl | decide) ?_
  refine W.seq (fun K4 hK4 => ?_)
  refine W.region ?_
  refine O.ex (Ex.build rfl (bld96_  )) rfl ?_
  first | refine O.storeAggP Try.sizeOf96 rfl rfl rfl rfl (fun w H => ?_) | refine O.storeAggN Try.sizeOf96 rfl rfl rfl (fun w H => ?_) rfl
  refine O.ex (Ex.assign rfl) rfl ?_
  refine O.nil ?_
  refine hK4 _ _ _ ?_
  refine W.ret ?_
  try dsimp only [thenQ, blockQ, retQ]
  first | refine ⟨_, ⟨_, _, _, rfl, rfl, (by first | exact loadVar_mtx Try.isAgg96 Try.sizeOf96 | exact loadVar_agg Try.isAgg96 Try.sizeOf96), _, _, rfl, rfl, rfl⟩, ?_⟩ | (refine retD_mark ?_; intro w H; refine ⟨_, ⟨_, _, _, rfl, rfl, (by first | exact loadVar_mtx Try.isAgg96 Try.sizeOf96 | exact loadVar_agg Try.isAgg96 Try.sizeOf96), _, _, rfl, rfl, rfl⟩, ?_⟩) | (refine retD_mark2 ?_; intro w H; refine ⟨_, ⟨_, _, _, rfl, rfl, (by first | exact loadVar_mtx Try.isAgg96 Try.sizeOf96 | exact loadVar_agg Try.isAgg96 Try.sizeOf96), _, _, rfl, rfl, rfl⟩, ?_⟩)
  exact ⟨rfl, rb_open.2 ⟨g, v1, v2, rbo_open.2 (Holds.to (by assumption))⟩⟩
set_option maxHeartbeats 4000000 in
theorem rdo_ct {w : World} {r k : Nat} {n most : Int} {s : St} {op : OpM} {hs : List (St × Arc)} {L : List HProp} (hg : GOk n most s) (h0 : 0 ≤ op.f_W) (hlen : hs.length ≤ 32) (H : Holds w (RB r k n most s hs :: L)) :
    CT Try.prog 59 [.pointer (some ⟨r, 0, none⟩), op.val] w fun u w' =>
      u = .tuple #[.agg (if opC n most s op = 0 then ecs s (opS n most s op) (wasA s op) else ezc), .int .i64 (opC n most s op)] ∧ Holds w' (RB r k n most (opS n most s op) (if opC n most s op = 0 then hsD k hs (s, wasA s op) else hs) :: L) := by
  obtain ⟨g, v1, v2, HO⟩ := rb_open.1 H
  obtain ⟨ws, hws⟩ : ∃ ws, ws = hs.map Prod.fst := ⟨_, rfl⟩
  obtain ⟨az, haz⟩ : ∃ az, az = hs.map Prod.snd := ⟨_, rfl⟩
  have H : Holds w (pt r (.cells (rbc g k v1 v2) 107 (0, 0)) :: Rg g n most s :: arrN TG 322 (gE n most) v1 ws :: arrN TA 4 aE v2 az :: L) := by
    rw [hws, haz]; exact rbo_open.1 HO
  have hw1 : ws.length ≤ 32 := by rw [hws, List.length_map]; exact hlen
  have ha1 : az.length ≤ 32 := by rw [haz, List.length_map]; exact hlen
  have hwl : ws.length = hs.length := by rw [hws, List.length_map]
  have hal : az.length = hs.length := by rw [haz, List.length_map]
  have hv1 : v1.oneCell' = true := arrN_one (e := gE n most) (Holds.to (M := arrN TG 322 (gE n most) v1 ws :: []) H)
  have hv2 : v2.oneCell' = true := arrN_one (e := aE) (Holds.to (M := arrN TA 4 aE v2 az :: []) H)
  refine CT.enter (N := 100) Try.func59 rfl rfl rfl rfl ?_
  refine W.seq (fun K0 hK0 => ?_)
  refine W.region ?_
  refine O.boxP rfl (fun b3 w H => ?_)
  refine O.allocP Try.zeroValue96 (fun b4 w H => ?_)
  have H : Holds w (pt b4 (.cells ezc 96 (0, 0)) :: pt b3 (.cells op.cs 91 (0, 0)) :: pt r (.cells (rbc g k v1 v2) 107 (0, 0)) :: Rg g n most s :: arrN TG 322 (gE n most) v1 ws :: arrN TA 4 aE v2 az :: L) := H
  refine O.ex (Ex.assign rfl) rfl ?_
  refine O.nil ?_
  refine hK0 _ _ _ ?_
  refine W.seq (fun K1 hK1 => ?_)
  refine W.region ?_
  refine O.ex (Ex.move rfl) rfl ?_
  refine O.ex (by first | exact Ex.nilPtr rfl | exact Ex.nilFunc rfl | exact Ex.nilYield rfl) rfl ?_
  refine O.ex (by first | exact Ex.field0 fld107_0 rfl | exact Ex.field fld107_0 rfl | exact Ex.fieldS fld107_0 rfl) rfl ?_
  refine O.ex (by first | exact Ex.loadMh Try.isAgg25 rfl | exact Ex.loadP Try.isAgg25 rfl | exact Ex.loadM Try.isAgg25 rfl | exact Ex.loadIn1 Try.isAgg25 rfl (Holds.to (by assumption)) | exact Ex.loadVc Try.isAgg25 rfl | exact Ex.loadR Try.isAgg25 rfl | exact Ex.loadQ Try.isAgg25 rfl) rfl ?_
  refine O.ex (by first | exact Ex.nilPtr rfl | exact Ex.nilFunc rfl | exact Ex.nilYield rfl) rfl ?_
  refine O.ex (Ex.loadRg Try.isAgg54 Try.sizeOf54 rfl) rfl ?_
  refine O.allocC rZ rfl (fun b6 w H => ?_)
  refine O.storeRg Try.sizeOf54 rfl rfl (fun w H => ?_) H
  have H : Holds w (Rg b6 n most s :: pt b4 (.cells ezc 96 (0, 0)) :: pt b3 (.cells op.cs 91 (0, 0)) :: pt r (.cells (rbc g k v1 v2) 107 (0, 0)) :: Rg g n most s :: arrN TG 322 (gE n most) v1 ws :: arrN TA 4 aE v2 az :: L) := Holds.to H
  refine O.nil ?_
  refine hK1 _ _ _ ?_
  refine W.seq (fun K2 hK2 => ?_)
  refine W.drawTo (pt b3 (.cells op.cs 91 (0, 0)) :: pt r (.cells (rbc g k v1 v2) 107 (0, 0)) :: []) (.take 0 (.take 1 (.take 2 (.take 3 (.take 4 (.one 5 (.take 6 .nil))))))) (mixed) (fun _ _ _ _ h => h) (by assumption) PP.auto (by decide +kernel) (fun w H => ?_)
  refine OQ.ex rfl (fun w H => (Ex.move rfl)) rfl ?_
  refine OQ.ex rfl (fun w H => (by first | exact Ex.nilPtr rfl | exact Ex.nilFunc rfl | exact Ex.nilYield rfl)) rfl ?_
  refine OQ.ex rfl (fun w H => (by first | exact Ex.field0 fld107_0 rfl | exact Ex.field fld107_0 rfl | exact Ex.fieldS fld107_0 rfl)) rfl ?_
  refine OQ.ex rfl (fun w H => (by first | exact Ex.loadMh Try.isAgg25 rfl | exact Ex.loadP Try.isAgg25 rfl | exact Ex.loadM Try.isAgg25 rfl | exact Ex.loadIn1 Try.isAgg25 rfl (Holds.to (by assumption)) | exact Ex.loadVc Try.isAgg25 rfl | exact Ex.loadR Try.isAgg25 rfl | exact Ex.loadQ Try.isAgg25 rfl)) rfl ?_
  refine OQ.ex rfl (fun w H => (by first | exact Ex.loadAggP Try.isAgg91 Try.sizeOf91 rfl | exact Ex.loadAggN Try.isAgg91 Try.sizeOf91 rfl | exact Ex.loadIn Try.isAgg91 Try.sizeOf91 rfl (Holds.to (by assumption)))) rfl ?_
  refine OQ.step rfl ?_
  refine O.callF Try.call102 rfl rfl (CT.mono (do24_ct (r := g) (op := op) h0 (Holds.to (M := Rg g n most s :: Rg b6 n most s :: pt b4 (.cells ezc 96 (0, 0)) :: pt b3 (.cells op.cs 91 (0, 0)) :: pt r (.cells (rbc g k v1 v2) 107 (0, 0)) :: arrN TG 322 (gE n most) v1 ws :: arrN TA 4 aE v2 az :: L) (by assumption))) ?_)
  rintro _ w ⟨rfl, H⟩
  refine O.thenNil ⟨(by first | exact Holds.to (by assumption) | assumption), ?_⟩
  refine OQ.ex rfl (fun w H => (Ex.assign rfl)) rfl ?_
  refine OQ.done ?_
  refine hK2 _ _ _ ?_
  refine W.seq (fun K3 hK3 => ?_)
  refine W.seq (fun K4 hK4 => ?_)
  refine W.region ?_
  refine O.ex (Ex.move rfl) rfl ?_
  refine O.ex (Ex.neqI rfl rfl) rfl ?_
  refine O.nil ?_
  refine hK4 _ _ _ ?_
  first | refine W.cond_p rfl (fun hbad => ?_) (fun hok => ?_) | refine W.cond_b rfl (fun hbad => ?_) (fun hok => ?_)
  · refine W.seq (fun K5 hK5 => ?_)
    refine W.region ?_
    refine O.ex (Ex.build rfl (bld96_  )) rfl ?_
    refine O.ex (Ex.move rfl) rfl ?_
    first | refine O.storeAggP Try.sizeOf96 rfl rfl rfl rfl (fun w H => ?_) | refine O.storeAggN Try.sizeOf96 rfl rfl rfl (fun w H => ?_) rfl
    refine O.ex (Ex.assign rfl) rfl ?_
    refine O.nil ?_
    refine hK5 _ _ _ ?_
    refine W.ret ?_
    try dsimp only [thenQ, blockQ, retQ]
    first | refine ⟨_, ⟨_, _, _, rfl, rfl, (by first | exact loadVar_mtx Try.isAgg96 Try.sizeOf96 | exact loadVar_agg Try.isAgg96 Try.sizeOf96), _, _, rfl, rfl, rfl⟩, ?_⟩ | (refine retD_mark ?_; intro w H; refine ⟨_, ⟨_, _, _, rfl, rfl, (by first | exact loadVar_mtx Try.isAgg96 Try.sizeOf96 | exact loadVar_agg Try.isAgg96 Try.sizeOf96), _, _, rfl, rfl, rfl⟩, ?_⟩) | (refine retD_mark2 ?_; intro w H; refine ⟨_, ⟨_, _, _, rfl, rfl, (by first | exact loadVar_mtx Try.isAgg96 Try.sizeOf96 | exact loadVar_agg Try.isAgg96 Try.sizeOf96), _, _, rfl, rfl, rfl⟩, ?_⟩)
    first
    | (have hb : ¬ opC n most s op = 0 := hbad
       rw [op_refused hb] at H
       rw [op_refused hb, if_neg hb, if_neg hb]
       refine ⟨rfl, rb_open.2 ⟨g, v1, v2, rbo_open.2 ?_⟩⟩
       rw [← hws, ← haz]
       exact Holds.to H)
    | (rw [if_pos hz, if_pos hz, ← hwa]
       exact ⟨by rw [hz]; rfl, rb_open.2 ⟨g, x1, x2, rbo_open.2 (Holds.to H)⟩⟩)
  · refine W.skip ?_
    refine hK3 _ _ _ ?_
    refine W.seq (fun K6 hK6 => ?_)
    refine W.region ?_
    have hz : opC n most s op = 0 := Decidable.not_not.1 hok
    refine O.ex (by first | exact Ex.field0 fld91_1 rfl | exact Ex.field fld91_1 rfl | exact Ex.fieldS fld91_1 rfl) rfl ?_
    refine O.ex (by first | exact Ex.loadMh Try.isAgg3 rfl | exact Ex.loadP Try.isAgg3 rfl | exact Ex.loadM Try.isAgg3 rfl | exact Ex.loadIn1 Try.isAgg3 rfl (Holds.to (by assumption)) | exact Ex.loadVc Try.isAgg3 rfl | exact Ex.loadR Try.isAgg3 rfl | exact Ex.loadQ Try.isAgg3 rfl) rfl ?_
    refine O.callF Try.call20 rfl rfl (CT.mono (rarc_ct (r := b6) hg (Holds.to (M := Rg b6 n most s :: pt b4 (.cells ezc 96 (0, 0)) :: pt b3 (.cells op.cs 91 (0, 0)) :: pt r (.cells (rbc g k v1 v2) 107 (0, 0)) :: Rg g n most (opS n most s op) :: arrN TG 322 (gE n most) v1 ws :: arrN TA 4 aE v2 az :: L) (by assumption))) ?_)
    rintro _ w ⟨rfl, H⟩
    refine O.ex (Ex.move rfl) rfl ?_
    refine O.ex (Ex.extract rfl rfl) rfl ?_
    refine O.ex (Ex.extract rfl rfl) rfl ?_
    refine O.allocP Try.zeroValue31 (fun b8 w H => ?_)
    first | refine O.storeAggP Try.sizeOf31 rfl rfl rfl rfl (fun w H => ?_) | refine O.storeAggN Try.sizeOf31 rfl rfl rfl (fun w H => ?_) rfl
    have H : Holds w (pt b8 (.cells (acs (arcQ s op.f_A)) 31 (0, 0)) :: Rg b6 n most s :: pt b4 (.cells ezc 96 (0, 0)) :: pt b3 (.cells op.cs 91 (0, 0)) :: pt r (.cells (rbc g k v1 v2) 107 (0, 0)) :: Rg g n most (opS n most s op) :: arrN TG 322 (gE n most) v1 ws :: arrN TA 4 aE v2 az :: L) := Holds.to H
    refine O.ex (Ex.assign rfl) rfl ?_
    refine O.nil ?_
    refine hK6 _ _ _ ?_
    refine W.seq (fun K7 hK7 => ?_)
    refine W.seq (fun K8 hK8 => ?_)
    refine W.region ?_
    refine O.ex (Ex.move rfl) rfl ?_
    refine O.ex (by first | exact Ex.notD rfl | exact Ex.not rfl) rfl ?_
    refine O.nil ?_
    refine hK8 _ _ _ ?_
    first | refine W.cond_p rfl (fun hth => ?_) (fun hth => ?_) | refine W.cond_b rfl (fun hth => ?_) (fun hth => ?_)
    · refine W.drawTo (pt b3 (.cells op.cs 91 (0, 0)) :: pt r (.cells (rbc g k v1 v2) 107 (0, 0)) :: []) (.take 0 (.take 1 (.take 2 (.take 3 (.take 4 (.take 5 (.one 6 (.take 7 (.take 8 (.take 9 (.one 10 .nil))))))))))) (mixed) (fun _ _ _ _ h => h) (by assumption) PP.auto (by decide +kernel) (fun w H => ?_)
      refine OQ.ex rfl (fun w H => (Ex.move rfl)) rfl ?_
      refine OQ.ex rfl (fun w H => (by first | exact Ex.nilPtr rfl | exact Ex.nilFunc rfl | exact Ex.nilYield rfl)) rfl ?_
      refine OQ.ex rfl (fun w H => (by first | exact Ex.field0 fld107_0 rfl | exact Ex.field fld107_0 rfl | exact Ex.fieldS fld107_0 rfl)) rfl ?_
      refine OQ.ex rfl (fun w H => (by first | exact Ex.loadMh Try.isAgg25 rfl | exact Ex.loadP Try.isAgg25 rfl | exact Ex.loadM Try.isAgg25 rfl | exact Ex.loadIn1 Try.isAgg25 rfl (Holds.to (by assumption)) | exact Ex.loadVc Try.isAgg25 rfl | exact Ex.loadR Try.isAgg25 rfl | exact Ex.loadQ Try.isAgg25 rfl)) rfl ?_
      refine OQ.ex rfl (fun w H => (by first | exact Ex.field0 fld91_1 rfl | exact Ex.field fld91_1 rfl | exact Ex.fieldS fld91_1 rfl)) rfl ?_
      refine OQ.ex rfl (fun w H => (by first | exact Ex.loadMh Try.isAgg3 rfl | exact Ex.loadP Try.isAgg3 rfl | exact Ex.loadM Try.isAgg3 rfl | exact Ex.loadIn1 Try.isAgg3 rfl (Holds.to (by assumption)) | exact Ex.loadVc Try.isAgg3 rfl | exact Ex.loadR Try.isAgg3 rfl | exact Ex.loadQ Try.isAgg3 rfl)) rfl ?_
      refine OQ.step rfl ?_
      refine O.callF Try.call20 rfl rfl (CT.mono (rarc_ct (r := g) (ok_op hg op) (Holds.to (M := Rg g n most (opS n most s op) :: pt b8 (.cells (acs (arcQ s op.f_A)) 31 (0, 0)) :: Rg b6 n most s :: pt b4 (.cells ezc 96 (0, 0)) :: pt b3 (.cells op.cs 91 (0, 0)) :: pt r (.cells (rbc g k v1 v2) 107 (0, 0)) :: arrN TG 322 (gE n most) v1 ws :: arrN TA 4 aE v2 az :: L) (by assumption))) ?_)
      rintro _ w ⟨rfl, H⟩
      refine O.thenNil ⟨(by first | exact Holds.to (by assumption) | assumption), ?_⟩
      refine OQ.ex rfl (fun w H => (Ex.move rfl)) rfl ?_
      refine OQ.ex rfl (fun w H => (Ex.extract rfl rfl)) rfl ?_
      refine OQ.ex rfl (fun w H => (Ex.extract rfl rfl)) rfl ?_
      refine OQ.step rfl ?_
      first | refine O.storeAggP Try.sizeOf31 rfl rfl rfl rfl (fun w H => ?_) | refine O.storeAggN Try.sizeOf31 rfl rfl rfl (fun w H => ?_) rfl
      have H : Holds w (pt b8 (.cells (acs (arcQ (opS n most s op) op.f_A)) 31 (0, 0)) :: Rg b6 n most s :: pt b4 (.cells ezc 96 (0, 0)) :: pt b3 (.cells op.cs 91 (0, 0)) :: pt r (.cells (rbc g k v1 v2) 107 (0, 0)) :: Rg g n most (opS n most s op) :: arrN TG 322 (gE n most) v1 ws :: arrN TA 4 aE v2 az :: L) := Holds.to H
      refine O.thenNil ⟨(by first | exact Holds.to (by assumption) | assumption), ?_⟩
      refine OQ.done ?_
      refine hK7 _ _ _ ?_
      refine W.seq (fun K9 hK9 => ?_)
      obtain ⟨wa, hwa, H⟩ : ∃ wa, wa = wasA s op ∧ Holds w (pt b8 (.cells (acs wa) 31 (0, 0)) :: Rg b6 n most s :: pt b4 (.cells ezc 96 (0, 0)) :: pt b3 (.cells op.cs 91 (0, 0)) :: pt r (.cells (rbc g k v1 v2) 107 (0, 0)) :: Rg g n most (opS n most s op) :: arrN TG 322 (gE n most) v1 ws :: arrN TA 4 aE v2 az :: L) := by
        refine ⟨_, rfl, ?_⟩
        first
        | (rw [← wasA_doc hz (by simpa using hth)]; exact H)
        | (rw [wasA_yes (by simpa using hth)]; exact H)
      refine W.drawTo (pt r (.cells (rbc g k v1 v2) 107 (0, 0)) :: Rg b6 n most s :: []) (.take 0 (.take 1 (.take 2 (.take 3 (.take 4 (.take 5 (.one 6 (.one 7 (.take 8 (.take 9 (.one 10 .nil))))))))))) (mixed) (fun _ _ _ _ h => h) (by assumption) PP.auto (by decide +kernel) (fun w H => ?_)
      refine OQ.ex rfl (fun w H => (Ex.move rfl)) rfl ?_
      refine OQ.ex rfl (fun w H => (Ex.move rfl)) rfl ?_
      refine OQ.ex rfl (fun w H => (by first | exact Ex.nilPtr rfl | exact Ex.nilFunc rfl | exact Ex.nilYield rfl)) rfl ?_
      refine OQ.ex rfl (fun w H => (by first | exact Ex.field0 fld107_2 rfl | exact Ex.field fld107_2 rfl | exact Ex.fieldS fld107_2 rfl)) rfl ?_
      refine OQ.ex rfl (fun w H => (by first | exact Ex.loadMh Try.isAgg104 rfl | exact Ex.loadP Try.isAgg104 rfl | exact Ex.loadM Try.isAgg104 rfl | exact Ex.loadIn1 Try.isAgg104 rfl (Holds.to (by assumption)) | exact Ex.loadVc Try.isAgg104 rfl | exact Ex.loadR Try.isAgg104 rfl | exact Ex.loadQ Try.isAgg104 rfl)) rfl ?_
      refine OQ.ex rfl (fun w H => (Ex.loadRg Try.isAgg54 Try.sizeOf54 rfl (Holds.to (by assumption)))) rfl ?_
      refine OQ.step rfl ?_
      refine O.build1N (e := gE n most) (z := s) Try.runUnderlying104 Try.sizeOf54 rZ rfl rfl (fun v50 w hv50 H => ?_) (by assumption) (gE_len s) rfl rfl (cs_size 322 _)
      refine O.thenNil ⟨(by first | exact Holds.to (by assumption) | assumption), ?_⟩
      refine OQ.step rfl ?_
      refine O.appendN (e := gE n most) (xs := ws) (ys := [s]) Try.runUnderlying104 Try.typeInfo54 (bt := 2128) rfl Try.sizeOf54 rZ rfl rfl (fun v51 w hv51 H => ?_) (Holds.to (M := arrN TG 322 (gE n most) v1 ws :: arrN TG 322 (gE n most) v50 [s] :: pt b8 (.cells (acs wa) 31 (0, 0)) :: Rg b6 n most s :: pt b4 (.cells ezc 96 (0, 0)) :: pt b3 (.cells op.cs 91 (0, 0)) :: pt r (.cells (rbc g k v1 v2) 107 (0, 0)) :: Rg g n most (opS n most s op) :: arrN TA 4 aE v2 az :: L) (by assumption)) (by simp only [List.length_cons, List.length_nil]; omega) (by simp only [List.length_cons, List.length_nil]; omega) rfl (cs_size 322 _) gE_len gE_one rfl
      refine O.thenNil ⟨(by first | exact Holds.to (by assumption) | assumption), ?_⟩
      refine OQ.ex rfl (fun w H => (by first | exact Ex.nilPtr rfl | exact Ex.nilFunc rfl | exact Ex.nilYield rfl)) rfl ?_
      refine OQ.ex rfl (fun w H => (by first | exact Ex.field0 fld107_2 rfl | exact Ex.field fld107_2 rfl | exact Ex.fieldS fld107_2 rfl)) rfl ?_
      refine OQ.last rfl (by decide +kernel) ?_
      first | refine O.storeP Try.sizeOf104 rfl rfl (fun w H => ?_) | refine O.storeR Try.sizeOf104 rfl rfl (fun w H => ?_) | refine O.storeM Try.sizeOf104 rfl rfl (fun w H => ?_) | refine O.storeVc Try.sizeOf104 rfl rfl (fun w H => ?_) | refine O.storeQ Try.sizeOf104 rfl rfl (fun w H => ?_)
      have H : Holds w (pt r (.cells (rbc g k v51 v2) 107 (0, 0)) :: arrN TG 322 (gE n most) v51 (ws ++ [s]) :: pt b8 (.cells (acs wa) 31 (0, 0)) :: Rg b6 n most s :: pt b4 (.cells ezc 96 (0, 0)) :: pt b3 (.cells op.cs 91 (0, 0)) :: Rg g n most (opS n most s op) :: arrN TA 4 aE v2 az :: L) := Holds.to H
      refine O.nil ?_
      refine hK9 _ _ _ ?_
      refine W.seq (fun K10 hK10 => ?_)
      refine W.drawTo (pt r (.cells (rbc g k v51 v2) 107 (0, 0)) :: pt b8 (.cells (acs wa) 31 (0, 0)) :: []) (.take 0 (.take 1 (.take 2 (.take 3 (.take 4 (.take 5 (.one 6 (.one 7 (.take 8 (.take 9 (.one 10 .nil))))))))))) (mixed) (fun _ _ _ _ h => h) (by assumption) PP.auto (by decide +kernel) (fun w H => ?_)
      refine OQ.ex rfl (fun w H => (Ex.move rfl)) rfl ?_
      refine OQ.ex rfl (fun w H => (Ex.move rfl)) rfl ?_
      refine OQ.ex rfl (fun w H => (by first | exact Ex.nilPtr rfl | exact Ex.nilFunc rfl | exact Ex.nilYield rfl)) rfl ?_
      refine OQ.ex rfl (fun w H => (by first | exact Ex.field0 fld107_3 rfl | exact Ex.field fld107_3 rfl | exact Ex.fieldS fld107_3 rfl)) rfl ?_
      refine OQ.ex rfl (fun w H => (by first | exact Ex.loadMh Try.isAgg105 rfl | exact Ex.loadP Try.isAgg105 rfl | exact Ex.loadM Try.isAgg105 rfl | exact Ex.loadIn1 Try.isAgg105 rfl (Holds.to (by assumption)) | exact Ex.loadVc Try.isAgg105 rfl | exact Ex.loadR Try.isAgg105 rfl | exact Ex.loadQ Try.isAgg105 rfl)) rfl ?_
      refine OQ.ex rfl (fun w H => (by first | exact Ex.loadAggP Try.isAgg31 Try.sizeOf31 rfl | exact Ex.loadAggN Try.isAgg31 Try.sizeOf31 rfl | exact Ex.loadIn Try.isAgg31 Try.sizeOf31 rfl (Holds.to (by assumption)))) rfl ?_
      refine OQ.step rfl ?_
      refine O.build1N (e := aE) (z := wa) Try.runUnderlying105 Try.sizeOf31 Try.zeroValue31 rfl rfl (fun v60 w hv60 H => ?_)
      refine O.thenNil ⟨(by first | exact Holds.to (by assumption) | assumption), ?_⟩
      refine OQ.step rfl ?_
      refine O.appendN Try.runUnderlying105 Try.typeInfo31 (bt := 32) rfl Try.sizeOf31 Try.zeroValue31 rfl rfl (fun v61 w hv61 H => ?_)
      refine O.thenNil ⟨(by first | exact Holds.to (by assumption) | assumption), ?_⟩
      refine OQ.ex rfl (fun w H => (by first | exact Ex.nilPtr rfl | exact Ex.nilFunc rfl | exact Ex.nilYield rfl)) rfl ?_
      refine OQ.ex rfl (fun w H => (by first | exact Ex.field0 fld107_3 rfl | exact Ex.field fld107_3 rfl | exact Ex.fieldS fld107_3 rfl)) rfl ?_
      refine OQ.last rfl (by decide +kernel) ?_
      first | refine O.storeP Try.sizeOf105 rfl rfl (fun w H => ?_) | refine O.storeR Try.sizeOf105 rfl rfl (fun w H => ?_) | refine O.storeM Try.sizeOf105 rfl rfl (fun w H => ?_) | refine O.storeVc Try.sizeOf105 rfl rfl (fun w H => ?_) | refine O.storeQ Try.sizeOf105 rfl rfl (fun w H => ?_)
      have H : Holds w (pt r (.cells (rbc g k v51 v61) 107 (0, 0)) :: arrN TA 4 aE v61 (az ++ [wa]) :: arrN TG 322 (gE n most) v51 (ws ++ [s]) :: pt b8 (.cells (acs wa) 31 (0, 0)) :: Rg b6 n most s :: pt b4 (.cells ezc 96 (0, 0)) :: pt b3 (.cells op.cs 91 (0, 0)) :: Rg g n most (opS n most s op) :: L) := Holds.to H
      have hl1 : (ws ++ [s]).length = ws.length + 1 := by simp
      have hl2 : (az ++ [wa]).length = az.length + 1 := by simp
      refine O.nil ?_
      refine hK10 _ _ _ ?_
      refine W.seq (fun K11 hK11 => ?_)
      refine W.seq (fun K12 hK12 => ?_)
      refine W.drawTo _ (.take 0 (.take 1 (.take 2 (.take 3 (.take 4 (.take 5 (.take 6 (.take 7 (.take 8 (.take 9 .nil)))))))))) (mixed) (fun _ _ _ _ h => h) (by assumption) (PP.refl _) (by decide +kernel) (fun w H => ?_)
      refine OQ.ex rfl (fun w H => (Ex.move rfl)) rfl ?_
      refine OQ.ex rfl (fun w H => (by first | exact Ex.nilPtr rfl | exact Ex.nilFunc rfl | exact Ex.nilYield rfl)) rfl ?_
      refine OQ.ex rfl (fun w H => (by first | exact Ex.field0 fld107_2 rfl | exact Ex.field fld107_2 rfl | exact Ex.fieldS fld107_2 rfl)) rfl ?_
      refine OQ.ex rfl (fun w H => (by first | exact Ex.loadMh Try.isAgg104 rfl | exact Ex.loadP Try.isAgg104 rfl | exact Ex.loadM Try.isAgg104 rfl | exact Ex.loadIn1 Try.isAgg104 rfl (Holds.to (by assumption)) | exact Ex.loadVc Try.isAgg104 rfl | exact Ex.loadR Try.isAgg104 rfl | exact Ex.loadQ Try.isAgg104 rfl)) rfl ?_
      refine OQ.ex rfl (fun w H => (by first | exact Ex.lenN Try.runUnderlying104 rfl | exact Ex.lenIn Try.runUnderlying104 rfl | exact Ex.lenL Try.runUnderlying104 rfl | exact Ex.len rfl Try.runUnderlying104 rfl)) rfl ?_
      refine OQ.ex rfl (fun w H => (Ex.move rfl)) rfl ?_
      refine OQ.ex rfl (fun w H => (by first | exact Ex.nilPtr rfl | exact Ex.nilFunc rfl | exact Ex.nilYield rfl)) rfl ?_
      refine OQ.ex rfl (fun w H => (by first | exact Ex.field0 fld107_1 rfl | exact Ex.field fld107_1 rfl | exact Ex.fieldS fld107_1 rfl)) rfl ?_
      refine OQ.ex rfl (fun w H => (by first | exact Ex.loadMh Try.isAgg3 rfl | exact Ex.loadP Try.isAgg3 rfl | exact Ex.loadM Try.isAgg3 rfl | exact Ex.loadIn1 Try.isAgg3 rfl (Holds.to (by assumption)) | exact Ex.loadVc Try.isAgg3 rfl | exact Ex.loadR Try.isAgg3 rfl | exact Ex.loadQ Try.isAgg3 rfl)) rfl ?_
      refine OQ.ex rfl (fun w H => (Ex.gtr rfl rfl)) rfl ?_
      refine OQ.done ?_
      refine hK12 _ _ _ ?_
      first | refine W.cond_p rfl (fun hgt => ?_) (fun hle => ?_) | refine W.cond_b rfl (fun hgt => ?_) (fun hle => ?_)
      · refine W.seq (fun K13 hK13 => ?_)
        refine W.region ?_
        refine O.ex (Ex.move rfl) rfl ?_
        refine O.build0N (e := gE n most) (sz := 322) Try.runUnderlying104 Try.sizeOf54 (fun v75 w hv75 H => ?_)
        refine O.ex (Ex.move rfl) rfl ?_
        refine O.ex (by first | exact Ex.nilPtr rfl | exact Ex.nilFunc rfl | exact Ex.nilYield rfl) rfl ?_
        refine O.ex (by first | exact Ex.field0 fld107_2 rfl | exact Ex.field fld107_2 rfl | exact Ex.fieldS fld107_2 rfl) rfl ?_
        refine O.ex (by first | exact Ex.loadMh Try.isAgg104 rfl | exact Ex.loadP Try.isAgg104 rfl | exact Ex.loadM Try.isAgg104 rfl | exact Ex.loadIn1 Try.isAgg104 rfl (Holds.to (by assumption)) | exact Ex.loadVc Try.isAgg104 rfl | exact Ex.loadR Try.isAgg104 rfl | exact Ex.loadQ Try.isAgg104 rfl) rfl ?_
        refine O.ex (Ex.sliceLoA (e := gE n most) (xs := ws ++ [s]) Try.runUnderlying104 Try.sizeOf54 rfl rfl (Holds.to (by assumption)) (by decide) (by omega)) rfl ?_
        refine O.appendCutN (e := gE n most) (xs := ([] : List St)) (ys := ws ++ [s]) Try.runUnderlying104 Try.typeInfo54 (bt := 2128) rfl Try.sizeOf54 rZ rfl rfl (fun v81 w hv81 H => ?_) gE_len gE_one (Holds.to (by assumption)) (show 1 ≤ _ by omega) (by simp only [List.length_nil]; omega) (by simp only [List.length_nil]; omega) rfl (cs_size 322 _) rfl
        refine O.ex (by first | exact Ex.nilPtr rfl | exact Ex.nilFunc rfl | exact Ex.nilYield rfl) rfl ?_
        refine O.ex (by first | exact Ex.field0 fld107_2 rfl | exact Ex.field fld107_2 rfl | exact Ex.fieldS fld107_2 rfl) rfl ?_
        first | refine O.storeP Try.sizeOf104 rfl rfl (fun w H => ?_) | refine O.storeR Try.sizeOf104 rfl rfl (fun w H => ?_) | refine O.storeM Try.sizeOf104 rfl rfl (fun w H => ?_) | refine O.storeVc Try.sizeOf104 rfl rfl (fun w H => ?_) | refine O.storeQ Try.sizeOf104 rfl rfl (fun w H => ?_)
        refine O.nil ?_
        refine hK13 _ _ _ ?_
        refine W.region ?_
        refine O.ex (Ex.move rfl) rfl ?_
        refine O.build0N (e := aE) (sz := 4) Try.runUnderlying105 Try.sizeOf31 (fun v85 w hv85 H => ?_)
        refine O.ex (Ex.move rfl) rfl ?_
        refine O.ex (by first | exact Ex.nilPtr rfl | exact Ex.nilFunc rfl | exact Ex.nilYield rfl) rfl ?_
        refine O.ex (by first | exact Ex.field0 fld107_3 rfl | exact Ex.field fld107_3 rfl | exact Ex.fieldS fld107_3 rfl) rfl ?_
        refine O.ex (by first | exact Ex.loadMh Try.isAgg105 rfl | exact Ex.loadP Try.isAgg105 rfl | exact Ex.loadM Try.isAgg105 rfl | exact Ex.loadIn1 Try.isAgg105 rfl (Holds.to (by assumption)) | exact Ex.loadVc Try.isAgg105 rfl | exact Ex.loadR Try.isAgg105 rfl | exact Ex.loadQ Try.isAgg105 rfl) rfl ?_
        refine O.ex (Ex.sliceLoA (e := aE) (xs := az ++ [wa]) Try.runUnderlying105 Try.sizeOf31 rfl rfl (Holds.to (by assumption)) (by decide) (by omega)) rfl ?_
        refine O.appendCutN (e := aE) (xs := ([] : List Arc)) (ys := az ++ [wa]) Try.runUnderlying105 Try.typeInfo31 (bt := 32) rfl Try.sizeOf31 Try.zeroValue31 rfl rfl (fun v91 w hv91 H => ?_) aE_len aE_one (Holds.to (by assumption)) (show 1 ≤ _ by omega) (by simp only [List.length_nil]; omega) (by simp only [List.length_nil]; omega)
        refine O.ex (by first | exact Ex.nilPtr rfl | exact Ex.nilFunc rfl | exact Ex.nilYield rfl) rfl ?_
        refine O.ex (by first | exact Ex.field0 fld107_3 rfl | exact Ex.field fld107_3 rfl | exact Ex.fieldS fld107_3 rfl) rfl ?_
        first | refine O.storeP Try.sizeOf105 rfl rfl (fun w H => ?_) | refine O.storeR Try.sizeOf105 rfl rfl (fun w H => ?_) | refine O.storeM Try.sizeOf105 rfl rfl (fun w H => ?_) | refine O.storeVc Try.sizeOf105 rfl rfl (fun w H => ?_) | refine O.storeQ Try.sizeOf105 rfl rfl (fun w H => ?_)
        refine O.nil ?_
        refine hK11 _ _ _ ?_
        refine W.seq (fun K14 hK14 => ?_)
        obtain ⟨x1, x2, H⟩ : ∃ x1 x2, Holds w (pt b8 (.cells (acs wa) 31 (0, 0)) :: Rg b6 n most s :: pt b4 (.cells ezc 96 (0, 0)) :: pt r (.cells (rbc g k x1 x2) 107 (0, 0)) :: Rg g n most (opS n most s op) :: arrN TG 322 (gE n most) x1 ((hsD k hs (s, wa)).map Prod.fst) :: arrN TA 4 aE x2 ((hsD k hs (s, wa)).map Prod.snd) :: L) := by
          first
          | (have hgt' : (k : Int) < ((ws ++ [s]).length : Int) := hgt
             have e : hsD k hs (s, wa) = (hs ++ [(s, wa)]).drop 1 := if_pos (by omega)
             refine ⟨v81, v91, ?_⟩
             rw [e, List.map_drop, List.map_drop, List.map_append, List.map_append, ← hws, ← haz]
             exact Holds.to (M := pt b8 (.cells (acs wa) 31 (0, 0)) :: Rg b6 n most s :: pt b4 (.cells ezc 96 (0, 0)) :: pt r (.cells (rbc g k v81 v91) 107 (0, 0)) :: Rg g n most (opS n most s op) :: arrN TG 322 (gE n most) v81 (([] : List St) ++ (ws ++ [s]).drop (1 : Int).toNat) :: arrN TA 4 aE v91 (([] : List Arc) ++ (az ++ [wa]).drop (1 : Int).toNat) :: L) (Holds.to H))
          | (have hle' : ¬ (k : Int) < ((ws ++ [s]).length : Int) := hle
             have e : hsD k hs (s, wa) = hs ++ [(s, wa)] := if_neg (by omega)
             refine ⟨v51, v61, ?_⟩
             rw [e, List.map_append, List.map_append, ← hws, ← haz]
             exact Holds.to H)
        refine W.drawTo (pt r (.cells (rbc g k x1 x2) 107 (0, 0)) :: pt b8 (.cells (acs wa) 31 (0, 0)) :: []) (.take 0 (.take 1 (.take 2 (.take 3 (.take 4 (.one 5 (.one 6 (.take 7 .nil)))))))) (mixed) (fun _ _ _ _ h => h) (by assumption) PP.auto (by decide +kernel) (fun w H => ?_)
        refine OQ.ex rfl (fun w H => (by first | exact Ex.loadAggP Try.isAgg31 Try.sizeOf31 rfl | exact Ex.loadAggN Try.isAgg31 Try.sizeOf31 rfl | exact Ex.loadIn Try.isAgg31 Try.sizeOf31 rfl (Holds.to (by assumption)))) rfl ?_
        refine OQ.ex rfl (fun w H => (Ex.move rfl)) rfl ?_
        refine OQ.ex rfl (fun w H => (by first | exact Ex.nilPtr rfl | exact Ex.nilFunc rfl | exact Ex.nilYield rfl)) rfl ?_
        refine OQ.ex rfl (fun w H => (by first | exact Ex.field0 fld107_0 rfl | exact Ex.field fld107_0 rfl | exact Ex.fieldS fld107_0 rfl)) rfl ?_
        refine OQ.ex rfl (fun w H => (by first | exact Ex.loadMh Try.isAgg25 rfl | exact Ex.loadP Try.isAgg25 rfl | exact Ex.loadM Try.isAgg25 rfl | exact Ex.loadIn1 Try.isAgg25 rfl (Holds.to (by assumption)) | exact Ex.loadVc Try.isAgg25 rfl | exact Ex.loadR Try.isAgg25 rfl | exact Ex.loadQ Try.isAgg25 rfl)) rfl ?_
        refine OQ.step rfl ?_
        refine O.callF Try.call96 rfl rfl (CT.mono (rends_ct (r1 := b6) (r2 := g) (a := wa) (Holds.to (M := Rg b6 n most s :: Rg g n most (opS n most s op) :: pt b8 (.cells (acs wa) 31 (0, 0)) :: pt b4 (.cells ezc 96 (0, 0)) :: pt r (.cells (rbc g k x1 x2) 107 (0, 0)) :: arrN TG 322 (gE n most) x1 ((hsD k hs (s, wa)).map Prod.fst) :: arrN TA 4 aE x2 ((hsD k hs (s, wa)).map Prod.snd) :: L) (by assumption))) ?_)
        rintro _ w ⟨rfl, H⟩
        refine O.thenNil ⟨(by first | exact Holds.to (by assumption) | assumption), ?_⟩
        refine OQ.step rfl ?_
        first | refine O.storeAggP Try.sizeOf96 rfl rfl rfl rfl (fun w H => ?_) | refine O.storeAggN Try.sizeOf96 rfl rfl rfl (fun w H => ?_) rfl
        have H : Holds w (pt b4 (.cells (ecs s (opS n most s op) wa) 96 (0, 0)) :: Rg g n most (opS n most s op) :: pt b8 (.cells (acs wa) 31 (0, 0)) :: pt r (.cells (rbc g k x1 x2) 107 (0, 0)) :: arrN TG 322 (gE n most) x1 ((hsD k hs (s, wa)).map Prod.fst) :: arrN TA 4 aE x2 ((hsD k hs (s, wa)).map Prod.snd) :: L) := Holds.to H
        refine O.thenNil ⟨(by first | exact Holds.to (by assumption) | assumption), ?_⟩
        refine OQ.ex rfl (fun w H => (Ex.assign rfl)) rfl ?_
        refine OQ.done ?_
        refine hK14 _ _ _ ?_
        refine W.ret ?_
        try dsimp only [thenQ, blockQ, retQ]
        first | refine ⟨_, ⟨_, _, _, rfl, rfl, (by first | exact loadVar_mtx Try.isAgg96 Try.sizeOf96 | exact loadVar_agg Try.isAgg96 Try.sizeOf96), _, _, rfl, rfl, rfl⟩, ?_⟩ | (refine retD_mark ?_; intro w H; refine ⟨_, ⟨_, _, _, rfl, rfl, (by first | exact loadVar_mtx Try.isAgg96 Try.sizeOf96 | exact loadVar_agg Try.isAgg96 Try.sizeOf96), _, _, rfl, rfl, rfl⟩, ?_⟩) | (refine retD_mark2 ?_; intro w H; refine ⟨_, ⟨_, _, _, rfl, rfl, (by first | exact loadVar_mtx Try.isAgg96 Try.sizeOf96 | exact loadVar_agg Try.isAgg96 Try.sizeOf96), _, _, rfl, rfl, rfl⟩, ?_⟩)
        first
        | (have hb : ¬ opC n most s op = 0 := hbad
           rw [op_refused hb] at H
           rw [op_refused hb, if_neg hb, if_neg hb]
           refine ⟨rfl, rb_open.2 ⟨g, v1, v2, rbo_open.2 ?_⟩⟩
           rw [← hws, ← haz]
           exact Holds.to H)
        | (rw [if_pos hz, if_pos hz, ← hwa]
           exact ⟨by rw [hz]; rfl, rb_open.2 ⟨g, x1, x2, rbo_open.2 (Holds.to H)⟩⟩)
      · refine W.skip ?_
        refine hK11 _ _ _ ?_
        refine W.seq (fun K15 hK15 => ?_)
        obtain ⟨x1, x2, H⟩ : ∃ x1 x2, Holds w (pt b8 (.cells (acs wa) 31 (0, 0)) :: Rg b6 n most s :: pt b4 (.cells ezc 96 (0, 0)) :: pt r (.cells (rbc g k x1 x2) 107 (0, 0)) :: Rg g n most (opS n most s op) :: arrN TG 322 (gE n most) x1 ((hsD k hs (s, wa)).map Prod.fst) :: arrN TA 4 aE x2 ((hsD k hs (s, wa)).map Prod.snd) :: L) := by
          first
          | (have hgt' : (k : Int) < ((ws ++ [s]).length : Int) := hgt
             have e : hsD k hs (s, wa) = (hs ++ [(s, wa)]).drop 1 := if_pos (by omega)
             refine ⟨v81, v91, ?_⟩
             rw [e, List.map_drop, List.map_drop, List.map_append, List.map_append, ← hws, ← haz]
             exact Holds.to (M := pt b8 (.cells (acs wa) 31 (0, 0)) :: Rg b6 n most s :: pt b4 (.cells ezc 96 (0, 0)) :: pt r (.cells (rbc g k v81 v91) 107 (0, 0)) :: Rg g n most (opS n most s op) :: arrN TG 322 (gE n most) v81 (([] : List St) ++ (ws ++ [s]).drop (1 : Int).toNat) :: arrN TA 4 aE v91 (([] : List Arc) ++ (az ++ [wa]).drop (1 : Int).toNat) :: L) (Holds.to H))
          | (have hle' : ¬ (k : Int) < ((ws ++ [s]).length : Int) := hle
             have e : hsD k hs (s, wa) = hs ++ [(s, wa)] := if_neg (by omega)
             refine ⟨v51, v61, ?_⟩
             rw [e, List.map_append, List.map_append, ← hws, ← haz]
             exact Holds.to H)
        refine W.drawTo (pt r (.cells (rbc g k x1 x2) 107 (0, 0)) :: pt b8 (.cells (acs wa) 31 (0, 0)) :: []) (.take 0 (.take 1 (.take 2 (.take 3 (.take 4 (.one 5 (.one 6 (.take 7 .nil)))))))) (mixed) (fun _ _ _ _ h => h) (by assumption) PP.auto (by decide +kernel) (fun w H => ?_)
        refine OQ.ex rfl (fun w H => (by first | exact Ex.loadAggP Try.isAgg31 Try.sizeOf31 rfl | exact Ex.loadAggN Try.isAgg31 Try.sizeOf31 rfl | exact Ex.loadIn Try.isAgg31 Try.sizeOf31 rfl (Holds.to (by assumption)))) rfl ?_
        refine OQ.ex rfl (fun w H => (Ex.move rfl)) rfl ?_
        refine OQ.ex rfl (fun w H => (by first | exact Ex.nilPtr rfl | exact Ex.nilFunc rfl | exact Ex.nilYield rfl)) rfl ?_
        refine OQ.ex rfl (fun w H => (by first | exact Ex.field0 fld107_0 rfl | exact Ex.field fld107_0 rfl | exact Ex.fieldS fld107_0 rfl)) rfl ?_
        refine OQ.ex rfl (fun w H => (by first | exact Ex.loadMh Try.isAgg25 rfl | exact Ex.loadP Try.isAgg25 rfl | exact Ex.loadM Try.isAgg25 rfl | exact Ex.loadIn1 Try.isAgg25 rfl (Holds.to (by assumption)) | exact Ex.loadVc Try.isAgg25 rfl | exact Ex.loadR Try.isAgg25 rfl | exact Ex.loadQ Try.isAgg25 rfl)) rfl ?_
        refine OQ.step rfl ?_
        refine O.callF Try.call96 rfl rfl (CT.mono (rends_ct (r1 := b6) (r2 := g) (a := wa) (Holds.to (M := Rg b6 n most s :: Rg g n most (opS n most s op) :: pt b8 (.cells (acs wa) 31 (0, 0)) :: pt b4 (.cells ezc 96 (0, 0)) :: pt r (.cells (rbc g k x1 x2) 107 (0, 0)) :: arrN TG 322 (gE n most) x1 ((hsD k hs (s, wa)).map Prod.fst) :: arrN TA 4 aE x2 ((hsD k hs (s, wa)).map Prod.snd) :: L) (by assumption))) ?_)
        rintro _ w ⟨rfl, H⟩
        refine O.thenNil ⟨(by first | exact Holds.to (by assumption) | assumption), ?_⟩
        refine OQ.step rfl ?_
        first | refine O.storeAggP Try.sizeOf96 rfl rfl rfl rfl (fun w H => ?_) | refine O.storeAggN Try.sizeOf96 rfl rfl rfl (fun w H => ?_) rfl
        have H : Holds w (pt b4 (.cells (ecs s (opS n most s op) wa) 96 (0, 0)) :: Rg g n most (opS n most s op) :: pt b8 (.cells (acs wa) 31 (0, 0)) :: pt r (.cells (rbc g k x1 x2) 107 (0, 0)) :: arrN TG 322 (gE n most) x1 ((hsD k hs (s, wa)).map Prod.fst) :: arrN TA 4 aE x2 ((hsD k hs (s, wa)).map Prod.snd) :: L) := Holds.to H
        refine O.thenNil ⟨(by first | exact Holds.to (by assumption) | assumption), ?_⟩
        refine OQ.ex rfl (fun w H => (Ex.assign rfl)) rfl ?_
        refine OQ.done ?_
        refine hK15 _ _ _ ?_
        refine W.ret ?_
        try dsimp only [thenQ, blockQ, retQ]
        first | refine ⟨_, ⟨_, _, _, rfl, rfl, (by first | exact loadVar_mtx Try.isAgg96 Try.sizeOf96 | exact loadVar_agg Try.isAgg96 Try.sizeOf96), _, _, rfl, rfl, rfl⟩, ?_⟩ | (refine retD_mark ?_; intro w H; refine ⟨_, ⟨_, _, _, rfl, rfl, (by first | exact loadVar_mtx Try.isAgg96 Try.sizeOf96 | exact loadVar_agg Try.isAgg96 Try.sizeOf96), _, _, rfl, rfl, rfl⟩, ?_⟩) | (refine retD_mark2 ?_; intro w H; refine ⟨_, ⟨_, _, _, rfl, rfl, (by first | exact loadVar_mtx Try.isAgg96 Try.sizeOf96 | exact loadVar_agg Try.isAgg96 Try.sizeOf96), _, _, rfl, rfl, rfl⟩, ?_⟩)
        first
        | (have hb : ¬ opC n most s op = 0 := hbad
           rw [op_refused hb] at H
           rw [op_refused hb, if_neg hb, if_neg hb]
           refine ⟨rfl, rb_open.2 ⟨g, v1, v2, rbo_open.2 ?_⟩⟩
           rw [← hws, ← haz]
           exact Holds.to H)
        | (rw [if_pos hz, if_pos hz, ← hwa]
           exact ⟨by rw [hz]; rfl, rb_open.2 ⟨g, x1, x2, rbo_open.2 (Holds.to H)⟩⟩)
    · refine W.skip ?_
      refine hK7 _ _ _ ?_
      refine W.seq (fun K16 hK16 => ?_)
      obtain ⟨wa, hwa, H⟩ : ∃ wa, wa = wasA s op ∧ Holds w (pt b8 (.cells (acs wa) 31 (0, 0)) :: Rg b6 n most s :: pt b4 (.cells ezc 96 (0, 0)) :: pt b3 (.cells op.cs 91 (0, 0)) :: pt r (.cells (rbc g k v1 v2) 107 (0, 0)) :: Rg g n most (opS n most s op) :: arrN TG 322 (gE n most) v1 ws :: arrN TA 4 aE v2 az :: L) := by
        refine ⟨_, rfl, ?_⟩
        first
        | (rw [← wasA_doc hz (by simpa using hth)]; exact H)
        | (rw [wasA_yes (by simpa using hth)]; exact H)
      refine W.drawTo (pt r (.cells (rbc g k v1 v2) 107 (0, 0)) :: Rg b6 n most s :: []) (.take 0 (.take 1 (.take 2 (.take 3 (.take 4 (.take 5 (.one 6 (.one 7 (.take 8 (.take 9 (.one 10 .nil))))))))))) (mixed) (fun _ _ _ _ h => h) (by assumption) PP.auto (by decide +kernel) (fun w H => ?_)
      refine OQ.ex rfl (fun w H => (Ex.move rfl)) rfl ?_
      refine OQ.ex rfl (fun w H => (Ex.move rfl)) rfl ?_
      refine OQ.ex rfl (fun w H => (by first | exact Ex.nilPtr rfl | exact Ex.nilFunc rfl | exact Ex.nilYield rfl)) rfl ?_
      refine OQ.ex rfl (fun w H => (by first | exact Ex.field0 fld107_2 rfl | exact Ex.field fld107_2 rfl | exact Ex.fieldS fld107_2 rfl)) rfl ?_
      refine OQ.ex rfl (fun w H => (by first | exact Ex.loadMh Try.isAgg104 rfl | exact Ex.loadP Try.isAgg104 rfl | exact Ex.loadM Try.isAgg104 rfl | exact Ex.loadIn1 Try.isAgg104 rfl (Holds.to (by assumption)) | exact Ex.loadVc Try.isAgg104 rfl | exact Ex.loadR Try.isAgg104 rfl | exact Ex.loadQ Try.isAgg104 rfl)) rfl ?_
      refine OQ.ex rfl (fun w H => (Ex.loadRg Try.isAgg54 Try.sizeOf54 rfl (Holds.to (by assumption)))) rfl ?_
      refine OQ.step rfl ?_
      refine O.build1N (e := gE n most) (z := s) Try.runUnderlying104 Try.sizeOf54 rZ rfl rfl (fun v50 w hv50 H => ?_) (by assumption) (gE_len s) rfl rfl (cs_size 322 _)
      refine O.thenNil ⟨(by first | exact Holds.to (by assumption) | assumption), ?_⟩
      refine OQ.step rfl ?_
      refine O.appendN (e := gE n most) (xs := ws) (ys := [s]) Try.runUnderlying104 Try.typeInfo54 (bt := 2128) rfl Try.sizeOf54 rZ rfl rfl (fun v51 w hv51 H => ?_) (Holds.to (M := arrN TG 322 (gE n most) v1 ws :: arrN TG 322 (gE n most) v50 [s] :: pt b8 (.cells (acs wa) 31 (0, 0)) :: Rg b6 n most s :: pt b4 (.cells ezc 96 (0, 0)) :: pt b3 (.cells op.cs 91 (0, 0)) :: pt r (.cells (rbc g k v1 v2) 107 (0, 0)) :: Rg g n most (opS n most s op) :: arrN TA 4 aE v2 az :: L) (by assumption)) (by simp only [List.length_cons, List.length_nil]; omega) (by simp only [List.length_cons, List.length_nil]; omega) rfl (cs_size 322 _) gE_len gE_one rfl
      refine O.thenNil ⟨(by first | exact Holds.to (by assumption) | assumption), ?_⟩
      refine OQ.ex rfl (fun w H => (by first | exact Ex.nilPtr rfl | exact Ex.nilFunc rfl | exact Ex.nilYield rfl)) rfl ?_
      refine OQ.ex rfl (fun w H => (by first | exact Ex.field0 fld107_2 rfl | exact Ex.field fld107_2 rfl | exact Ex.fieldS fld107_2 rfl)) rfl ?_
      refine OQ.last rfl (by decide +kernel) ?_
      first | refine O.storeP Try.sizeOf104 rfl rfl (fun w H => ?_) | refine O.storeR Try.sizeOf104 rfl rfl (fun w H => ?_) | refine O.storeM Try.sizeOf104 rfl rfl (fun w H => ?_) | refine O.storeVc Try.sizeOf104 rfl rfl (fun w H => ?_) | refine O.storeQ Try.sizeOf104 rfl rfl (fun w H => ?_)
      have H : Holds w (pt r (.cells (rbc g k v51 v2) 107 (0, 0)) :: arrN TG 322 (gE n most) v51 (ws ++ [s]) :: pt b8 (.cells (acs wa) 31 (0, 0)) :: Rg b6 n most s :: pt b4 (.cells ezc 96 (0, 0)) :: pt b3 (.cells op.cs 91 (0, 0)) :: Rg g n most (opS n most s op) :: arrN TA 4 aE v2 az :: L) := Holds.to H
      refine O.nil ?_
      refine hK16 _ _ _ ?_
      refine W.seq (fun K17 hK17 => ?_)
      refine W.drawTo (pt r (.cells (rbc g k v51 v2) 107 (0, 0)) :: pt b8 (.cells (acs wa) 31 (0, 0)) :: []) (.take 0 (.take 1 (.take 2 (.take 3 (.take 4 (.take 5 (.one 6 (.one 7 (.take 8 (.take 9 (.one 10 .nil))))))))))) (mixed) (fun _ _ _ _ h => h) (by assumption) PP.auto (by decide +kernel) (fun w H => ?_)
      refine OQ.ex rfl (fun w H => (Ex.move rfl)) rfl ?_
      refine OQ.ex rfl (fun w H => (Ex.move rfl)) rfl ?_
      refine OQ.ex rfl (fun w H => (by first | exact Ex.nilPtr rfl | exact Ex.nilFunc rfl | exact Ex.nilYield rfl)) rfl ?_
      refine OQ.ex rfl (fun w H => (by first | exact Ex.field0 fld107_3 rfl | exact Ex.field fld107_3 rfl | exact Ex.fieldS fld107_3 rfl)) rfl ?_
      refine OQ.ex rfl (fun w H => (by first | exact Ex.loadMh Try.isAgg105 rfl | exact Ex.loadP Try.isAgg105 rfl | exact Ex.loadM Try.isAgg105 rfl | exact Ex.loadIn1 Try.isAgg105 rfl (Holds.to (by assumption)) | exact Ex.loadVc Try.isAgg105 rfl | exact Ex.loadR Try.isAgg105 rfl | exact Ex.loadQ Try.isAgg105 rfl)) rfl ?_
      refine OQ.ex rfl (fun w H => (by first | exact Ex.loadAggP Try.isAgg31 Try.sizeOf31 rfl | exact Ex.loadAggN Try.isAgg31 Try.sizeOf31 rfl | exact Ex.loadIn Try.isAgg31 Try.sizeOf31 rfl (Holds.to (by assumption)))) rfl ?_
      refine OQ.step rfl ?_
      refine O.build1N (e := aE) (z := wa) Try.runUnderlying105 Try.sizeOf31 Try.zeroValue31 rfl rfl (fun v60 w hv60 H => ?_)
      refine O.thenNil ⟨(by first | exact Holds.to (by assumption) | assumption), ?_⟩
      refine OQ.step rfl ?_
      refine O.appendN Try.runUnderlying105 Try.typeInfo31 (bt := 32) rfl Try.sizeOf31 Try.zeroValue31 rfl rfl (fun v61 w hv61 H => ?_)
      refine O.thenNil ⟨(by first | exact Holds.to (by assumption) | assumption), ?_⟩
      refine OQ.ex rfl (fun w H => (by first | exact Ex.nilPtr rfl | exact Ex.nilFunc rfl | exact Ex.nilYield rfl)) rfl ?_
      refine OQ.ex rfl (fun w H => (by first | exact Ex.field0 fld107_3 rfl | exact Ex.field fld107_3 rfl | exact Ex.fieldS fld107_3 rfl)) rfl ?_
      refine OQ.last rfl (by decide +kernel) ?_
      first | refine O.storeP Try.sizeOf105 rfl rfl (fun w H => ?_) | refine O.storeR Try.sizeOf105 rfl rfl (fun w H => ?_) | refine O.storeM Try.sizeOf105 rfl rfl (fun w H => ?_) | refine O.storeVc Try.sizeOf105 rfl rfl (fun w H => ?_) | refine O.storeQ Try.sizeOf105 rfl rfl (fun w H => ?_)
      have H : Holds w (pt r (.cells (rbc g k v51 v61) 107 (0, 0)) :: arrN TA 4 aE v61 (az ++ [wa]) :: arrN TG 322 (gE n most) v51 (ws ++ [s]) :: pt b8 (.cells (acs wa) 31 (0, 0)) :: Rg b6 n most s :: pt b4 (.cells ezc 96 (0, 0)) :: pt b3 (.cells op.cs 91 (0, 0)) :: Rg g n most (opS n most s op) :: L) := Holds.to H
      have hl1 : (ws ++ [s]).length = ws.length + 1 := by simp
      have hl2 : (az ++ [wa]).length = az.length + 1 := by simp
      refine O.nil ?_
      refine hK17 _ _ _ ?_
      refine W.seq (fun K18 hK18 => ?_)
      refine W.seq (fun K19 hK19 => ?_)
      refine W.drawTo _ (.take 0 (.take 1 (.take 2 (.take 3 (.take 4 (.take 5 (.take 6 (.take 7 (.take 8 (.take 9 .nil)))))))))) (mixed) (fun _ _ _ _ h => h) (by assumption) (PP.refl _) (by decide +kernel) (fun w H => ?_)
      refine OQ.ex rfl (fun w H => (Ex.move rfl)) rfl ?_
      refine OQ.ex rfl (fun w H => (by first | exact Ex.nilPtr rfl | exact Ex.nilFunc rfl | exact Ex.nilYield rfl)) rfl ?_
      refine OQ.ex rfl (fun w H => (by first | exact Ex.field0 fld107_2 rfl | exact Ex.field fld107_2 rfl | exact Ex.fieldS fld107_2 rfl)) rfl ?_
      refine OQ.ex rfl (fun w H => (by first | exact Ex.loadMh Try.isAgg104 rfl | exact Ex.loadP Try.isAgg104 rfl | exact Ex.loadM Try.isAgg104 rfl | exact Ex.loadIn1 Try.isAgg104 rfl (Holds.to (by assumption)) | exact Ex.loadVc Try.isAgg104 rfl | exact Ex.loadR Try.isAgg104 rfl | exact Ex.loadQ Try.isAgg104 rfl)) rfl ?_
      refine OQ.ex rfl (fun w H => (by first | exact Ex.lenN Try.runUnderlying104 rfl | exact Ex.lenIn Try.runUnderlying104 rfl | exact Ex.lenL Try.runUnderlying104 rfl | exact Ex.len rfl Try.runUnderlying104 rfl)) rfl ?_
      refine OQ.ex rfl (fun w H => (Ex.move rfl)) rfl ?_
      refine OQ.ex rfl (fun w H => (by first | exact Ex.nilPtr rfl | exact Ex.nilFunc rfl | exact Ex.nilYield rfl)) rfl ?_
      refine OQ.ex rfl (fun w H => (by first | exact Ex.field0 fld107_1 rfl | exact Ex.field fld107_1 rfl | exact Ex.fieldS fld107_1 rfl)) rfl ?_
      refine OQ.ex rfl (fun w H => (by first | exact Ex.loadMh Try.isAgg3 rfl | exact Ex.loadP Try.isAgg3 rfl | exact Ex.loadM Try.isAgg3 rfl | exact Ex.loadIn1 Try.isAgg3 rfl (Holds.to (by assumption)) | exact Ex.loadVc Try.isAgg3 rfl | exact Ex.loadR Try.isAgg3 rfl | exact Ex.loadQ Try.isAgg3 rfl)) rfl ?_
      refine OQ.ex rfl (fun w H => (Ex.gtr rfl rfl)) rfl ?_
      refine OQ.done ?_
      refine hK19 _ _ _ ?_
      first | refine W.cond_p rfl (fun hgt => ?_) (fun hle => ?_) | refine W.cond_b rfl (fun hgt => ?_) (fun hle => ?_)
      · refine W.seq (fun K20 hK20 => ?_)
        refine W.region ?_
        refine O.ex (Ex.move rfl) rfl ?_
        refine O.build0N (e := gE n most) (sz := 322) Try.runUnderlying104 Try.sizeOf54 (fun v75 w hv75 H => ?_)
        refine O.ex (Ex.move rfl) rfl ?_
        refine O.ex (by first | exact Ex.nilPtr rfl | exact Ex.nilFunc rfl | exact Ex.nilYield rfl) rfl ?_
        refine O.ex (by first | exact Ex.field0 fld107_2 rfl | exact Ex.field fld107_2 rfl | exact Ex.fieldS fld107_2 rfl) rfl ?_
        refine O.ex (by first | exact Ex.loadMh Try.isAgg104 rfl | exact Ex.loadP Try.isAgg104 rfl | exact Ex.loadM Try.isAgg104 rfl | exact Ex.loadIn1 Try.isAgg104 rfl (Holds.to (by assumption)) | exact Ex.loadVc Try.isAgg104 rfl | exact Ex.loadR Try.isAgg104 rfl | exact Ex.loadQ Try.isAgg104 rfl) rfl ?_
        refine O.ex (Ex.sliceLoA (e := gE n most) (xs := ws ++ [s]) Try.runUnderlying104 Try.sizeOf54 rfl rfl (Holds.to (by assumption)) (by decide) (by omega)) rfl ?_
        refine O.appendCutN (e := gE n most) (xs := ([] : List St)) (ys := ws ++ [s]) Try.runUnderlying104 Try.typeInfo54 (bt := 2128) rfl Try.sizeOf54 rZ rfl rfl (fun v81 w hv81 H => ?_) gE_len gE_one (Holds.to (by assumption)) (show 1 ≤ _ by omega) (by simp only [List.length_nil]; omega) (by simp only [List.length_nil]; omega) rfl (cs_size 322 _) rfl
        refine O.ex (by first | exact Ex.nilPtr rfl | exact Ex.nilFunc rfl | exact Ex.nilYield rfl) rfl ?_
        refine O.ex (by first | exact Ex.field0 fld107_2 rfl | exact Ex.field fld107_2 rfl | exact Ex.fieldS fld107_2 rfl) rfl ?_
        first | refine O.storeP Try.sizeOf104 rfl rfl (fun w H => ?_) | refine O.storeR Try.sizeOf104 rfl rfl (fun w H => ?_) | refine O.storeM Try.sizeOf104 rfl rfl (fun w H => ?_) | refine O.storeVc Try.sizeOf104 rfl rfl (fun w H => ?_) | refine O.storeQ Try.sizeOf104 rfl rfl (fun w H => ?_)
        refine O.nil ?_
        refine hK20 _ _ _ ?_
        refine W.region ?_
        refine O.ex (Ex.move rfl) rfl ?_
        refine O.build0N (e := aE) (sz := 4) Try.runUnderlying105 Try.sizeOf31 (fun v85 w hv85 H => ?_)
        refine O.ex (Ex.move rfl) rfl ?_
        refine O.ex (by first | exact Ex.nilPtr rfl | exact Ex.nilFunc rfl | exact Ex.nilYield rfl) rfl ?_
        refine O.ex (by first | exact Ex.field0 fld107_3 rfl | exact Ex.field fld107_3 rfl | exact Ex.fieldS fld107_3 rfl) rfl ?_
        refine O.ex (by first | exact Ex.loadMh Try.isAgg105 rfl | exact Ex.loadP Try.isAgg105 rfl | exact Ex.loadM Try.isAgg105 rfl | exact Ex.loadIn1 Try.isAgg105 rfl (Holds.to (by assumption)) | exact Ex.loadVc Try.isAgg105 rfl | exact Ex.loadR Try.isAgg105 rfl | exact Ex.loadQ Try.isAgg105 rfl) rfl ?_
        refine O.ex (Ex.sliceLoA (e := aE) (xs := az ++ [wa]) Try.runUnderlying105 Try.sizeOf31 rfl rfl (Holds.to (by assumption)) (by decide) (by omega)) rfl ?_
        refine O.appendCutN (e := aE) (xs := ([] : List Arc)) (ys := az ++ [wa]) Try.runUnderlying105 Try.typeInfo31 (bt := 32) rfl Try.sizeOf31 Try.zeroValue31 rfl rfl (fun v91 w hv91 H => ?_) aE_len aE_one (Holds.to (by assumption)) (show 1 ≤ _ by omega) (by simp only [List.length_nil]; omega) (by simp only [List.length_nil]; omega)
        refine O.ex (by first | exact Ex.nilPtr rfl | exact Ex.nilFunc rfl | exact Ex.nilYield rfl) rfl ?_
        refine O.ex (by first | exact Ex.field0 fld107_3 rfl | exact Ex.field fld107_3 rfl | exact Ex.fieldS fld107_3 rfl) rfl ?_
        first | refine O.storeP Try.sizeOf105 rfl rfl (fun w H => ?_) | refine O.storeR Try.sizeOf105 rfl rfl (fun w H => ?_) | refine O.storeM Try.sizeOf105 rfl rfl (fun w H => ?_) | refine O.storeVc Try.sizeOf105 rfl rfl (fun w H => ?_) | refine O.storeQ Try.sizeOf105 rfl rfl (fun w H => ?_)
        refine O.nil ?_
        refine hK18 _ _ _ ?_
        refine W.seq (fun K21 hK21 => ?_)
        obtain ⟨x1, x2, H⟩ : ∃ x1 x2, Holds w (pt b8 (.cells (acs wa) 31 (0, 0)) :: Rg b6 n most s :: pt b4 (.cells ezc 96 (0, 0)) :: pt r (.cells (rbc g k x1 x2) 107 (0, 0)) :: Rg g n most (opS n most s op) :: arrN TG 322 (gE n most) x1 ((hsD k hs (s, wa)).map Prod.fst) :: arrN TA 4 aE x2 ((hsD k hs (s, wa)).map Prod.snd) :: L) := by
          first
          | (have hgt' : (k : Int) < ((ws ++ [s]).length : Int) := hgt
             have e : hsD k hs (s, wa) = (hs ++ [(s, wa)]).drop 1 := if_pos (by omega)
             refine ⟨v81, v91, ?_⟩
             rw [e, List.map_drop, List.map_drop, List.map_append, List.map_append, ← hws, ← haz]
             exact Holds.to (M := pt b8 (.cells (acs wa) 31 (0, 0)) :: Rg b6 n most s :: pt b4 (.cells ezc 96 (0, 0)) :: pt r (.cells (rbc g k v81 v91) 107 (0, 0)) :: Rg g n most (opS n most s op) :: arrN TG 322 (gE n most) v81 (([] : List St) ++ (ws ++ [s]).drop (1 : Int).toNat) :: arrN TA 4 aE v91 (([] : List Arc) ++ (az ++ [wa]).drop (1 : Int).toNat) :: L) (Holds.to H))
          | (have hle' : ¬ (k : Int) < ((ws ++ [s]).length : Int) := hle
             have e : hsD k hs (s, wa) = hs ++ [(s, wa)] := if_neg (by omega)
             refine ⟨v51, v61, ?_⟩
             rw [e, List.map_append, List.map_append, ← hws, ← haz]
             exact Holds.to H)
        refine W.drawTo (pt r (.cells (rbc g k x1 x2) 107 (0, 0)) :: pt b8 (.cells (acs wa) 31 (0, 0)) :: []) (.take 0 (.take 1 (.take 2 (.take 3 (.take 4 (.one 5 (.one 6 (.take 7 .nil)))))))) (mixed) (fun _ _ _ _ h => h) (by assumption) PP.auto (by decide +kernel) (fun w H => ?_)
        refine OQ.ex rfl (fun w H => (by first | exact Ex.loadAggP Try.isAgg31 Try.sizeOf31 rfl | exact Ex.loadAggN Try.isAgg31 Try.sizeOf31 rfl | exact Ex.loadIn Try.isAgg31 Try.sizeOf31 rfl (Holds.to (by assumption)))) rfl ?_
        refine OQ.ex rfl (fun w H => (Ex.move rfl)) rfl ?_
        refine OQ.ex rfl (fun w H => (by first | exact Ex.nilPtr rfl | exact Ex.nilFunc rfl | exact Ex.nilYield rfl)) rfl ?_
        refine OQ.ex rfl (fun w H => (by first | exact Ex.field0 fld107_0 rfl | exact Ex.field fld107_0 rfl | exact Ex.fieldS fld107_0 rfl)) rfl ?_
        refine OQ.ex rfl (fun w H => (by first | exact Ex.loadMh Try.isAgg25 rfl | exact Ex.loadP Try.isAgg25 rfl | exact Ex.loadM Try.isAgg25 rfl | exact Ex.loadIn1 Try.isAgg25 rfl (Holds.to (by assumption)) | exact Ex.loadVc Try.isAgg25 rfl | exact Ex.loadR Try.isAgg25 rfl | exact Ex.loadQ Try.isAgg25 rfl)) rfl ?_
        refine OQ.step rfl ?_
        refine O.callF Try.call96 rfl rfl (CT.mono (rends_ct (r1 := b6) (r2 := g) (a := wa) (Holds.to (M := Rg b6 n most s :: Rg g n most (opS n most s op) :: pt b8 (.cells (acs wa) 31 (0, 0)) :: pt b4 (.cells ezc 96 (0, 0)) :: pt r (.cells (rbc g k x1 x2) 107 (0, 0)) :: arrN TG 322 (gE n most) x1 ((hsD k hs (s, wa)).map Prod.fst) :: arrN TA 4 aE x2 ((hsD k hs (s, wa)).map Prod.snd) :: L) (by assumption))) ?_)
        rintro _ w ⟨rfl, H⟩
        refine O.thenNil ⟨(by first | exact Holds.to (by assumption) | assumption), ?_⟩
        refine OQ.step rfl ?_
        first | refine O.storeAggP Try.sizeOf96 rfl rfl rfl rfl (fun w H => ?_) | refine O.storeAggN Try.sizeOf96 rfl rfl rfl (fun w H => ?_) rfl
        have H : Holds w (pt b4 (.cells (ecs s (opS n most s op) wa) 96 (0, 0)) :: Rg g n most (opS n most s op) :: pt b8 (.cells (acs wa) 31 (0, 0)) :: pt r (.cells (rbc g k x1 x2) 107 (0, 0)) :: arrN TG 322 (gE n most) x1 ((hsD k hs (s, wa)).map Prod.fst) :: arrN TA 4 aE x2 ((hsD k hs (s, wa)).map Prod.snd) :: L) := Holds.to H
        refine O.thenNil ⟨(by first | exact Holds.to (by assumption) | assumption), ?_⟩
        refine OQ.ex rfl (fun w H => (Ex.assign rfl)) rfl ?_
        refine OQ.done ?_
        refine hK21 _ _ _ ?_
        refine W.ret ?_
        try dsimp only [thenQ, blockQ, retQ]
        first | refine ⟨_, ⟨_, _, _, rfl, rfl, (by first | exact loadVar_mtx Try.isAgg96 Try.sizeOf96 | exact loadVar_agg Try.isAgg96 Try.sizeOf96), _, _, rfl, rfl, rfl⟩, ?_⟩ | (refine retD_mark ?_; intro w H; refine ⟨_, ⟨_, _, _, rfl, rfl, (by first | exact loadVar_mtx Try.isAgg96 Try.sizeOf96 | exact loadVar_agg Try.isAgg96 Try.sizeOf96), _, _, rfl, rfl, rfl⟩, ?_⟩) | (refine retD_mark2 ?_; intro w H; refine ⟨_, ⟨_, _, _, rfl, rfl, (by first | exact loadVar_mtx Try.isAgg96 Try.sizeOf96 | exact loadVar_agg Try.isAgg96 Try.sizeOf96), _, _, rfl, rfl, rfl⟩, ?_⟩)
        first
        | (have hb : ¬ opC n most s op = 0 := hbad
           rw [op_refused hb] at H
           rw [op_refused hb, if_neg hb, if_neg hb]
           refine ⟨rfl, rb_open.2 ⟨g, v1, v2, rbo_open.2 ?_⟩⟩
           rw [← hws, ← haz]
           exact Holds.to H)
        | (rw [if_pos hz, if_pos hz, ← hwa]
           exact ⟨by rw [hz]; rfl, rb_open.2 ⟨g, x1, x2, rbo_open.2 (Holds.to H)⟩⟩)
      · refine W.skip ?_
        refine hK18 _ _ _ ?_
        refine W.seq (fun K22 hK22 => ?_)
        obtain ⟨x1, x2, H⟩ : ∃ x1 x2, Holds w (pt b8 (.cells (acs wa) 31 (0, 0)) :: Rg b6 n most s :: pt b4 (.cells ezc 96 (0, 0)) :: pt r (.cells (rbc g k x1 x2) 107 (0, 0)) :: Rg g n most (opS n most s op) :: arrN TG 322 (gE n most) x1 ((hsD k hs (s, wa)).map Prod.fst) :: arrN TA 4 aE x2 ((hsD k hs (s, wa)).map Prod.snd) :: L) := by
          first
          | (have hgt' : (k : Int) < ((ws ++ [s]).length : Int) := hgt
             have e : hsD k hs (s, wa) = (hs ++ [(s, wa)]).drop 1 := if_pos (by omega)
             refine ⟨v81, v91, ?_⟩
             rw [e, List.map_drop, List.map_drop, List.map_append, List.map_append, ← hws, ← haz]
             exact Holds.to (M := pt b8 (.cells (acs wa) 31 (0, 0)) :: Rg b6 n most s :: pt b4 (.cells ezc 96 (0, 0)) :: pt r (.cells (rbc g k v81 v91) 107 (0, 0)) :: Rg g n most (opS n most s op) :: arrN TG 322 (gE n most) v81 (([] : List St) ++ (ws ++ [s]).drop (1 : Int).toNat) :: arrN TA 4 aE v91 (([] : List Arc) ++ (az ++ [wa]).drop (1 : Int).toNat) :: L) (Holds.to H))
          | (have hle' : ¬ (k : Int) < ((ws ++ [s]).length : Int) := hle
             have e : hsD k hs (s, wa) = hs ++ [(s, wa)] := if_neg (by omega)
             refine ⟨v51, v61, ?_⟩
             rw [e, List.map_append, List.map_append, ← hws, ← haz]
             exact Holds.to H)
        refine W.drawTo (pt r (.cells (rbc g k x1 x2) 107 (0, 0)) :: pt b8 (.cells (acs wa) 31 (0, 0)) :: []) (.take 0 (.take 1 (.take 2 (.take 3 (.take 4 (.one 5 (.one 6 (.take 7 .nil)))))))) (mixed) (fun _ _ _ _ h => h) (by assumption) PP.auto (by decide +kernel) (fun w H => ?_)
        refine OQ.ex rfl (fun w H => (by first | exact Ex.loadAggP Try.isAgg31 Try.sizeOf31 rfl | exact Ex.loadAggN Try.isAgg31 Try.sizeOf31 rfl | exact Ex.loadIn Try.isAgg31 Try.sizeOf31 rfl (Holds.to (by assumption)))) rfl ?_
        refine OQ.ex rfl (fun w H => (Ex.move rfl)) rfl ?_
        refine OQ.ex rfl (fun w H => (by first | exact Ex.nilPtr rfl | exact Ex.nilFunc rfl | exact Ex.nilYield rfl)) rfl ?_
        refine OQ.ex rfl (fun w H => (by first | exact Ex.field0 fld107_0 rfl | exact Ex.field fld107_0 rfl | exact Ex.fieldS fld107_0 rfl)) rfl ?_
        refine OQ.ex rfl (fun w H => (by first | exact Ex.loadMh Try.isAgg25 rfl | exact Ex.loadP Try.isAgg25 rfl | exact Ex.loadM Try.isAgg25 rfl | exact Ex.loadIn1 Try.isAgg25 rfl (Holds.to (by assumption)) | exact Ex.loadVc Try.isAgg25 rfl | exact Ex.loadR Try.isAgg25 rfl | exact Ex.loadQ Try.isAgg25 rfl)) rfl ?_
        refine OQ.step rfl ?_
        refine O.callF Try.call96 rfl rfl (CT.mono (rends_ct (r1 := b6) (r2 := g) (a := wa) (Holds.to (M := Rg b6 n most s :: Rg g n most (opS n most s op) :: pt b8 (.cells (acs wa) 31 (0, 0)) :: pt b4 (.cells ezc 96 (0, 0)) :: pt r (.cells (rbc g k x1 x2) 107 (0, 0)) :: arrN TG 322 (gE n most) x1 ((hsD k hs (s, wa)).map Prod.fst) :: arrN TA 4 aE x2 ((hsD k hs (s, wa)).map Prod.snd) :: L) (by assumption))) ?_)
        rintro _ w ⟨rfl, H⟩
        refine O.thenNil ⟨(by first | exact Holds.to (by assumption) | assumption), ?_⟩
        refine OQ.step rfl ?_
        first | refine O.storeAggP Try.sizeOf96 rfl rfl rfl rfl (fun w H => ?_) | refine O.storeAggN Try.sizeOf96 rfl rfl rfl (fun w H => ?_) rfl
        have H : Holds w (pt b4 (.cells (ecs s (opS n most s op) wa) 96 (0, 0)) :: Rg g n most (opS n most s op) :: pt b8 (.cells (acs wa) 31 (0, 0)) :: pt r (.cells (rbc g k x1 x2) 107 (0, 0)) :: arrN TG 322 (gE n most) x1 ((hsD k hs (s, wa)).map Prod.fst) :: arrN TA 4 aE x2 ((hsD k hs (s, wa)).map Prod.snd) :: L) := Holds.to H
        refine O.thenNil ⟨(by first | exact Holds.to (by assumption) | assumption), ?_⟩
        refine OQ.ex rfl (fun w H => (Ex.assign rfl)) rfl ?_
        refine OQ.done ?_
        refine hK22 _ _ _ ?_
        refine W.ret ?_
        try dsimp only [thenQ, blockQ, retQ]
        first | refine ⟨_, ⟨_, _, _, rfl, rfl, (by first | exact loadVar_mtx Try.isAgg96 Try.sizeOf96 | exact loadVar_agg Try.isAgg96 Try.sizeOf96), _, _, rfl, rfl, rfl⟩, ?_⟩ | (refine retD_mark ?_; intro w H; refine ⟨_, ⟨_, _, _, rfl, rfl, (by first | exact loadVar_mtx Try.isAgg96 Try.sizeOf96 | exact loadVar_agg Try.isAgg96 Try.sizeOf96), _, _, rfl, rfl, rfl⟩, ?_⟩) | (refine retD_mark2 ?_; intro w H; refine ⟨_, ⟨_, _, _, rfl, rfl, (by first | exact loadVar_mtx Try.isAgg96 Try.sizeOf96 | exact loadVar_agg Try.isAgg96 Try.sizeOf96), _, _, rfl, rfl, rfl⟩, ?_⟩)
        first
        | (have hb : ¬ opC n most s op = 0 := hbad
           rw [op_refused hb] at H
           rw [op_refused hb, if_neg hb, if_neg hb]
           refine ⟨rfl, rb_open.2 ⟨g, v1, v2, rbo_open.2 ?_⟩⟩
           rw [← hws, ← haz]
           exact Holds.to H)
        | (rw [if_pos hz, if_pos hz, ← hwa]
           exact ⟨by rw [hz]; rfl, rb_open.2 ⟨g, x1, x2, rbo_open.2 (Holds.to H)⟩⟩)
end Go.Proofs.Ytakmbbgnnbpkoaa
