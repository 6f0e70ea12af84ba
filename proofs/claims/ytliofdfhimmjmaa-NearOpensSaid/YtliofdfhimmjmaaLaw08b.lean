import Derived.Test.YtliofdfhimmjmaaLaw08
--ARR
--INF
--DEEP
--LOADS loadRT loadRA loadRN loadRM
--AGGLOADS loadRArc
namespace Go.Proofs.Ytliofdfhimmjmaa
open Go.Rr Go Gr
set_option linter.unusedVariables false
theorem lstP_filter (p q : Nat → Bool) : (lstP p).filter (fun x => q x.toNat) = lstP fun i => p i && q i := by
  unfold lstP
  rw [List.filter_map, List.filter_filter]
  congr 1
  exact List.filter_congr fun i _ => by show (q ((i : Int)).toNat && p i) = (p i && q i); rw [Int.toNat_natCast, Bool.and_comm]
theorem take_getC (xs : List Int) {i : Nat} (h : i < xs.length) : xs.take (i + 1) = xs.take i ++ [xs.getD i default] := by
  rw [List.take_succ_eq_append_getElem h]; simp [List.getD_eq_getElem?_getD, h]
theorem ids_rng {s : St} {i : Nat} (h : i < (idsI s).length) : (0 ≤ (idsI s).getD i default ∧ (idsI s).getD i default < 64) ∧ tkP s ((idsI s).getD i default).toNat = true := mem_lstP.1 (mem_getL h)
def endP (s : St) (v : Int) (b : Bool) : Nat → Bool := fun i => if b then decide ((s i).a.h = v) else decide ((s i).a.t = v)
def endI (s : St) (v : Int) (b : Bool) : List Int := if b then inI s v else outI s v
theorem endP_all (s : St) (v : Int) (b : Bool) : (idsI s).filter (fun x => endP s v b x.toNat) = endI s v b := by
  unfold idsI
  rw [lstP_filter]
  cases b <;> rfl
def endT (s : St) (v : Int) (b : Bool) (i : Nat) : List Int := ((idsI s).take i).filter fun x => endP s v b x.toNat
theorem endT_len (s : St) (v : Int) (b : Bool) (i : Nat) : (endT s v b i).length ≤ 64 := by
  unfold endT
  have h1 := List.length_filter_le (fun x : Int => endP s v b x.toNat) ((idsI s).take i)
  have h2 := lstP_len (tkP s)
  have h3 : (idsI s).length ≤ 64 := h2
  rw [List.length_take] at h1
  omega
theorem endT_succ {s : St} {v : Int} {b : Bool} {i : Nat} (h : i < (idsI s).length) : endT s v b (i + 1) = endT s v b i ++ (if endP s v b ((idsI s).getD i default).toNat = true then [(idsI s).getD i default] else []) := by
  unfold endT
  rw [take_getC _ h, List.filter_append]
  congr 1
  by_cases e : endP s v b ((idsI s).getD i default).toNat = true
  · rw [if_pos e]; exact List.filter_cons_of_pos (p := fun x : Int => endP s v b x.toNat) e
  · rw [if_neg e]; exact List.filter_cons_of_neg (p := fun x : Int => endP s v b x.toNat) e
set_option maxHeartbeats 1000000 in
theorem rendsO_ct {w : World} {r : Nat} {n most v : Int} {s : St} {L : List HProp} (H : Holds w (Rg r n most s :: L)) :
    CT Try.prog 51 [.pointer (some ⟨r, 0, none⟩), .int .i64 v, .bool false] w fun u w' => u.oneCell' = true ∧ Holds w' (arr 3 (Value.int .i64) u (endI s v false) :: Rg r n most s :: L) := by
  have hll' : (idsI s).length ≤ 64 := lstP_len (tkP s)
  refine CT.enter (N := 53) Try.func51 rfl rfl rfl rfl ?_
  refine W.seq (fun K0 hK0 => ?_)
  refine W.region ?_
  refine O.ex (Ex.assign rfl) rfl ?_
  refine O.nil ?_
  refine hK0 _ _ _ ?_
  refine W.seq (fun K1 hK1 => ?_)
  refine W.region ?_
  refine O.ex (Ex.assign rfl) rfl ?_
  refine O.nil ?_
  refine hK1 _ _ _ ?_
  refine W.seq (fun K2 hK2 => ?_)
  refine W.region ?_
  refine O.ex (Ex.move rfl) rfl ?_
  refine O.callF Try.call52 rfl rfl (CT.mono (rids_ct (Holds.to (by assumption))) ?_)
  rintro _ w ⟨hu1, H⟩
  rename_i iv
  refine O.ex (Ex.assign rfl) rfl ?_
  refine O.nil ?_
  refine hK2 _ _ _ ?_
  refine W.seq (fun K3 hK3 => ?_)
  refine W.seq (fun K4 hK4 => ?_)
  refine W.region ?_
  refine O.ex (Ex.assign rfl) rfl ?_
  refine O.nil ?_
  refine hK4 _ _ _ ?_
  refine W.block ?_
  have H := arr_nil (T := 3) (e := Value.int .i64) H
  refine W.loop (σ := Nat × Value) (fun z => [(0, .pointer (some ⟨r, 0, none⟩)), (1, .int .i64 v), (2, .bool false), (7, z.2), (8, iv), (9, .int .i64 (z.1 : Int))]) (fun z ds w => ds = [] ∧ z.1 ≤ (idsI s).length ∧ z.2.oneCell' = true ∧ Holds w (arr 3 (Value.int .i64) z.2 (endT s v false z.1) :: arr 3 (Value.int .i64) iv (idsI s) :: Rg r n most s :: L)) (fun z => (idsI s).length - z.1) (0, .slice none 0 0) ⟨rfl, rfl, rfl, rfl, rfl, rfl, trivial⟩ ⟨rfl, by dsimp only; omega, rfl, H⟩ ?_
  clear H
  rintro ⟨i, u⟩ _ w ⟨rfl, hi, hu, H⟩
  dsimp only at hi hu H ⊢
  have hlen := endT_len s v false i
  refine W.seq (fun K5 hK5 => ?_)
  refine W.seq (fun K6 hK6 => ?_)
  refine W.region ?_
  refine O.ex (Ex.move rfl) rfl ?_
  refine O.ex (Ex.move rfl) rfl ?_
  refine O.ex (by first | exact Ex.lenR Try.runUnderlying28 rfl | exact Ex.lenIn Try.runUnderlying28 rfl | exact Ex.lenL Try.runUnderlying28 rfl | exact Ex.len rfl Try.runUnderlying28 rfl) rfl ?_
  refine O.ex (Ex.lss rfl rfl) rfl ?_
  refine O.nil ?_
  refine hK6 _ _ _ ?_
  first | refine W.cond_p rfl (fun hlt => ?_) (fun hge => ?_) | refine W.cond_b rfl (fun hlt => ?_) (fun hge => ?_)
  · refine W.skip ?_
    refine hK5 _ _ _ ?_
    refine W.seq (fun K7 hK7 => ?_)
    refine W.block ?_
    refine W.seq (fun K8 hK8 => ?_)
    have hil : i < (idsI s).length := by omega
    obtain ⟨⟨r0, r1⟩, r2⟩ := ids_rng hil
    have esu := endT_succ (v := v) (b := false) hil
    refine W.drawTo _ (.take 0 (.take 1 (.take 2 (.take 3 (.take 4 (.take 5 (.take 6 (.take 7 (.take 8 (.one 9 (.one 10 .nil))))))))))) (mixed) (fun _ _ _ _ h => h) (by assumption) (PP.refl _) (by decide +kernel) (fun w H => ?_)
    refine OQ.ex rfl (fun w H => (Ex.move rfl)) rfl ?_
    refine OQ.ex rfl (fun w H => (Ex.move rfl)) rfl ?_
    refine OQ.ex rfl (fun w H => (Ex.move rfl)) rfl ?_
    refine OQ.ex rfl (fun w H => (by first | exact Ex.idxR Try.runUnderlying28 Try.sizeOf3 rfl rfl | exact Ex.idxIn Try.runUnderlying28 Try.sizeOf3 rfl rfl | exact Ex.idxS Try.runUnderlying28 Try.sizeOf3 rfl rfl | exact Ex.idx Try.runUnderlying28 Try.sizeOf3 rfl rfl (by omega) (by omega))) rfl ?_
    refine OQ.ex rfl (fun w H => (by first | exact Ex.loadRT Try.isAgg3 rfl | exact Ex.loadRA Try.isAgg3 rfl | exact Ex.loadRN Try.isAgg3 rfl | exact Ex.loadRM Try.isAgg3 rfl | exact Ex.loadR Try.isAgg3 rfl | exact Ex.loadIn1 Try.isAgg3 rfl (Holds.to (by assumption)) | exact Ex.loadInF Try.isAgg3 rfl (Holds.to (by assumption)) | exact Ex.loadP Try.isAgg3 rfl | exact Ex.loadMh Try.isAgg3 rfl | exact Ex.loadM Try.isAgg3 rfl | exact Ex.loadVc Try.isAgg3 rfl | exact Ex.loadQ Try.isAgg3 rfl)) rfl ?_
    refine OQ.ex rfl (fun w H => (by first | exact Ex.nilPtr rfl | exact Ex.nilFunc rfl | exact Ex.nilYield rfl)) rfl ?_
    refine OQ.ex rfl (fun w H => (by first | exact Ex.field0 fld45_3 rfl | exact Ex.field fld45_3 rfl | exact Ex.fieldS fld45_3 rfl | exact Ex.fieldIn fld45_3 rfl)) rfl ?_
    refine OQ.ex rfl (fun w H => (Ex.idxArr Try.runUnderlying43 Try.sizeOf42 rfl rfl)) rfl ?_
    refine OQ.ex rfl (fun w H => (by first | exact Ex.loadRArc Try.isAgg42 Try.sizeOf42 rfl | exact Ex.loadAggP Try.isAgg42 Try.sizeOf42 rfl | exact Ex.loadAggN Try.isAgg42 Try.sizeOf42 rfl | exact Ex.loadIn Try.isAgg42 Try.sizeOf42 rfl (Holds.to (by assumption)))) rfl ?_
    refine OQ.step rfl ?_
    refine O.allocP Try.zeroValue42 (fun b10 w H => ?_)
    refine O.thenNil ⟨(by first | exact Holds.to (by assumption) | assumption), ?_⟩
    refine OQ.last rfl (by decide +kernel) ?_
    first | refine O.storeAggP Try.sizeOf42 rfl rfl rfl rfl (fun w H => ?_) | refine O.storeAggN Try.sizeOf42 rfl rfl rfl (fun w H => ?_) rfl
    refine O.nil ?_
    refine hK8 _ _ _ ?_
    refine W.seq (fun K9 hK9 => ?_)
    refine W.region ?_
    refine O.ex (Ex.move rfl) rfl ?_
    refine O.ex (by first | exact Ex.notD rfl | exact Ex.not rfl) rfl ?_
    refine O.ex (Ex.move rfl) rfl ?_
    refine O.known (t := 30) (c := true) rfl (by first | rfl | decide | (simp; done) | omega) ?_
    refine O.guard_t rfl rfl ?_
    refine O.ex (by first | exact Ex.field0 fld42_0 rfl | exact Ex.field fld42_0 rfl | exact Ex.fieldS fld42_0 rfl | exact Ex.fieldIn fld42_0 rfl) rfl ?_
    refine O.guard_t rfl rfl ?_
    refine O.ex (by first | exact Ex.loadRT Try.isAgg3 rfl | exact Ex.loadRA Try.isAgg3 rfl | exact Ex.loadRN Try.isAgg3 rfl | exact Ex.loadRM Try.isAgg3 rfl | exact Ex.loadMh Try.isAgg3 rfl | exact Ex.loadInF Try.isAgg3 rfl (Holds.to (by assumption)) | exact Ex.loadP Try.isAgg3 rfl | exact Ex.loadM Try.isAgg3 rfl | exact Ex.loadIn1 Try.isAgg3 rfl (Holds.to (by assumption)) | exact Ex.loadVc Try.isAgg3 rfl | exact Ex.loadR Try.isAgg3 rfl | exact Ex.loadQ Try.isAgg3 rfl) rfl ?_
    refine O.guard_t rfl rfl ?_
    refine O.ex (Ex.move rfl) rfl ?_
    refine O.guard_t rfl rfl ?_
    refine O.ex (Ex.eqlI rfl rfl) rfl ?_
    refine O.ex (Ex.pick_t rfl rfl) rfl ?_
    refine O.ex (Ex.move rfl) rfl ?_
    first | refine O.split_p (t := 36) rfl (fun hA => ?_) (fun hB => ?_) | refine O.split (t := 36) rfl (fun hA => ?_) (fun hB => ?_)
    · refine O.guard_f rfl rfl rfl rfl ?_
      refine O.guard_f rfl rfl rfl rfl ?_
      refine O.guard_u rfl rfl rfl ?_
      refine O.guard_u rfl rfl rfl ?_
      refine O.guard_u rfl rfl rfl ?_
      refine O.guard_u rfl rfl rfl ?_
      refine O.guard_f rfl rfl rfl rfl ?_
      refine O.ex (Ex.pick_t rfl rfl) rfl ?_
      refine O.nil ?_
      refine hK9 _ _ _ ?_
      refine W.cond_t rfl ?_
      refine W.region ?_
      refine O.ex (Ex.move rfl) rfl ?_
      refine O.ex (Ex.move rfl) rfl ?_
      refine O.ex (Ex.move rfl) rfl ?_
      refine O.ex (by first | exact Ex.idxR Try.runUnderlying28 Try.sizeOf3 rfl rfl | exact Ex.idxIn Try.runUnderlying28 Try.sizeOf3 rfl rfl | exact Ex.idxS Try.runUnderlying28 Try.sizeOf3 rfl rfl | exact Ex.idx Try.runUnderlying28 Try.sizeOf3 rfl rfl (by omega) (by omega)) rfl ?_
      refine O.ex (by first | exact Ex.loadRT Try.isAgg3 rfl | exact Ex.loadRA Try.isAgg3 rfl | exact Ex.loadRN Try.isAgg3 rfl | exact Ex.loadRM Try.isAgg3 rfl | exact Ex.loadR Try.isAgg3 rfl | exact Ex.loadIn1 Try.isAgg3 rfl (Holds.to (by assumption)) | exact Ex.loadInF Try.isAgg3 rfl (Holds.to (by assumption)) | exact Ex.loadP Try.isAgg3 rfl | exact Ex.loadMh Try.isAgg3 rfl | exact Ex.loadM Try.isAgg3 rfl | exact Ex.loadVc Try.isAgg3 rfl | exact Ex.loadQ Try.isAgg3 rfl) rfl ?_
      refine O.build1 (e := Value.int .i64) Try.runUnderlying28 Try.sizeOf3 Try.zeroValue3 rfl (fun v50 w hv50 H => ?_)
      refine O.appendR Try.runUnderlying28 Try.typeInfo3 (bt := 8) rfl Try.sizeOf3 Try.zeroValue3 rfl rfl (fun v51 w hv51 H => ?_)
      refine O.ex (Ex.assign rfl) rfl ?_
      refine O.nil ?_
      refine hK7 _ _ _ ?_
      refine W.region ?_
      refine O.ex (Ex.move rfl) rfl ?_
      refine O.ex (by first | exact Ex.addI rfl rfl | exact Ex.add rfl rfl rfl) rfl ?_
      refine O.ex (Ex.assign rfl) rfl ?_
      refine O.nil ?_
      first
      | exact ⟨(i + 1, v51), ⟨rfl, rfl, rfl, rfl, rfl, rfl, trivial⟩, ⟨rfl, by dsimp only; omega, hv51, by rw [esu, if_pos (show endP s v false ((idsI s).getD i default).toNat = true from decide_eq_true hA)]; exact Holds.to (by assumption)⟩, by dsimp only; omega⟩
      | exact ⟨(i + 1, u), ⟨rfl, rfl, rfl, rfl, rfl, rfl, trivial⟩, ⟨rfl, by dsimp only; omega, hu, by rw [esu, if_neg (show ¬ endP s v false ((idsI s).getD i default).toNat = true from fun hh => hB (of_decide_eq_true hh)), List.append_nil]; exact Holds.to (by assumption)⟩, by dsimp only; omega⟩
    · refine O.guard_t rfl rfl ?_
      refine O.ex (Ex.move rfl) rfl ?_
      refine O.guard_t rfl rfl ?_
      refine O.ex (Ex.move rfl) rfl ?_
      refine O.known (t := 38) (c := false) rfl (by first | rfl | decide | (simp; done) | omega) ?_
      refine O.guard_f rfl rfl rfl rfl ?_
      refine O.guard_f rfl rfl rfl rfl ?_
      refine O.guard_f rfl rfl rfl rfl ?_
      refine O.guard_f rfl rfl rfl rfl ?_
      refine O.guard_t rfl rfl ?_
      refine O.ex (Ex.pick_f rfl rfl) rfl ?_
      refine O.ex (Ex.pick_f rfl rfl) rfl ?_
      refine O.nil ?_
      refine hK9 _ _ _ ?_
      refine W.cond_f rfl ?_
      refine W.skip ?_
      refine hK7 _ _ _ ?_
      refine W.region ?_
      refine O.ex (Ex.move rfl) rfl ?_
      refine O.ex (by first | exact Ex.addI rfl rfl | exact Ex.add rfl rfl rfl) rfl ?_
      refine O.ex (Ex.assign rfl) rfl ?_
      refine O.nil ?_
      first
      | exact ⟨(i + 1, v51), ⟨rfl, rfl, rfl, rfl, rfl, rfl, trivial⟩, ⟨rfl, by dsimp only; omega, hv51, by rw [esu, if_pos (show endP s v false ((idsI s).getD i default).toNat = true from decide_eq_true hA)]; exact Holds.to (by assumption)⟩, by dsimp only; omega⟩
      | exact ⟨(i + 1, u), ⟨rfl, rfl, rfl, rfl, rfl, rfl, trivial⟩, ⟨rfl, by dsimp only; omega, hu, by rw [esu, if_neg (show ¬ endP s v false ((idsI s).getD i default).toNat = true from fun hh => hB (of_decide_eq_true hh)), List.append_nil]; exact Holds.to (by assumption)⟩, by dsimp only; omega⟩
  · refine W.exit ?_
    refine hK3 _ _ _ ?_
    refine W.seq (fun K10 hK10 => ?_)
    refine W.region ?_
    refine O.ex (Ex.move rfl) rfl ?_
    refine O.ex (Ex.assign rfl) rfl ?_
    refine O.nil ?_
    refine hK10 _ _ _ ?_
    refine W.ret ?_
    try dsimp only [thenQ, blockQ, retQ]
    first | refine ⟨_, ⟨_, _, rfl, rfl, rfl⟩, ?_⟩ | (refine retD_mark ?_; intro w H; refine ⟨_, ⟨_, _, rfl, rfl, rfl⟩, ?_⟩) | (refine retD_mark2 ?_; intro w H; refine ⟨_, ⟨_, _, rfl, rfl, rfl⟩, ?_⟩)
    obtain rfl : i = (idsI s).length := by omega
    refine ⟨hu, ?_⟩
    rw [← endP_all]
    unfold endT at H
    rw [List.take_length] at H
    exact Holds.to H
set_option maxHeartbeats 1000000 in
theorem rendsI_ct {w : World} {r : Nat} {n most v : Int} {s : St} {L : List HProp} (H : Holds w (Rg r n most s :: L)) :
    CT Try.prog 51 [.pointer (some ⟨r, 0, none⟩), .int .i64 v, .bool true] w fun u w' => u.oneCell' = true ∧ Holds w' (arr 3 (Value.int .i64) u (endI s v true) :: Rg r n most s :: L) := by
  have hll' : (idsI s).length ≤ 64 := lstP_len (tkP s)
  refine CT.enter (N := 53) Try.func51 rfl rfl rfl rfl ?_
  refine W.seq (fun K0 hK0 => ?_)
  refine W.region ?_
  refine O.ex (Ex.assign rfl) rfl ?_
  refine O.nil ?_
  refine hK0 _ _ _ ?_
  refine W.seq (fun K1 hK1 => ?_)
  refine W.region ?_
  refine O.ex (Ex.assign rfl) rfl ?_
  refine O.nil ?_
  refine hK1 _ _ _ ?_
  refine W.seq (fun K2 hK2 => ?_)
  refine W.region ?_
  refine O.ex (Ex.move rfl) rfl ?_
  refine O.callF Try.call52 rfl rfl (CT.mono (rids_ct (Holds.to (by assumption))) ?_)
  rintro _ w ⟨hu1, H⟩
  rename_i iv
  refine O.ex (Ex.assign rfl) rfl ?_
  refine O.nil ?_
  refine hK2 _ _ _ ?_
  refine W.seq (fun K3 hK3 => ?_)
  refine W.seq (fun K4 hK4 => ?_)
  refine W.region ?_
  refine O.ex (Ex.assign rfl) rfl ?_
  refine O.nil ?_
  refine hK4 _ _ _ ?_
  refine W.block ?_
  have H := arr_nil (T := 3) (e := Value.int .i64) H
  refine W.loop (σ := Nat × Value) (fun z => [(0, .pointer (some ⟨r, 0, none⟩)), (1, .int .i64 v), (2, .bool true), (7, z.2), (8, iv), (9, .int .i64 (z.1 : Int))]) (fun z ds w => ds = [] ∧ z.1 ≤ (idsI s).length ∧ z.2.oneCell' = true ∧ Holds w (arr 3 (Value.int .i64) z.2 (endT s v true z.1) :: arr 3 (Value.int .i64) iv (idsI s) :: Rg r n most s :: L)) (fun z => (idsI s).length - z.1) (0, .slice none 0 0) ⟨rfl, rfl, rfl, rfl, rfl, rfl, trivial⟩ ⟨rfl, by dsimp only; omega, rfl, H⟩ ?_
  clear H
  rintro ⟨i, u⟩ _ w ⟨rfl, hi, hu, H⟩
  dsimp only at hi hu H ⊢
  have hlen := endT_len s v true i
  refine W.seq (fun K5 hK5 => ?_)
  refine W.seq (fun K6 hK6 => ?_)
  refine W.region ?_
  refine O.ex (Ex.move rfl) rfl ?_
  refine O.ex (Ex.move rfl) rfl ?_
  refine O.ex (by first | exact Ex.lenR Try.runUnderlying28 rfl | exact Ex.lenIn Try.runUnderlying28 rfl | exact Ex.lenL Try.runUnderlying28 rfl | exact Ex.len rfl Try.runUnderlying28 rfl) rfl ?_
  refine O.ex (Ex.lss rfl rfl) rfl ?_
  refine O.nil ?_
  refine hK6 _ _ _ ?_
  first | refine W.cond_p rfl (fun hlt => ?_) (fun hge => ?_) | refine W.cond_b rfl (fun hlt => ?_) (fun hge => ?_)
  · refine W.skip ?_
    refine hK5 _ _ _ ?_
    refine W.seq (fun K7 hK7 => ?_)
    refine W.block ?_
    refine W.seq (fun K8 hK8 => ?_)
    have hil : i < (idsI s).length := by omega
    obtain ⟨⟨r0, r1⟩, r2⟩ := ids_rng hil
    have esu := endT_succ (v := v) (b := true) hil
    refine W.drawTo _ (.take 0 (.take 1 (.take 2 (.take 3 (.take 4 (.take 5 (.take 6 (.take 7 (.take 8 (.one 9 (.one 10 .nil))))))))))) (mixed) (fun _ _ _ _ h => h) (by assumption) (PP.refl _) (by decide +kernel) (fun w H => ?_)
    refine OQ.ex rfl (fun w H => (Ex.move rfl)) rfl ?_
    refine OQ.ex rfl (fun w H => (Ex.move rfl)) rfl ?_
    refine OQ.ex rfl (fun w H => (Ex.move rfl)) rfl ?_
    refine OQ.ex rfl (fun w H => (by first | exact Ex.idxR Try.runUnderlying28 Try.sizeOf3 rfl rfl | exact Ex.idxIn Try.runUnderlying28 Try.sizeOf3 rfl rfl | exact Ex.idxS Try.runUnderlying28 Try.sizeOf3 rfl rfl | exact Ex.idx Try.runUnderlying28 Try.sizeOf3 rfl rfl (by omega) (by omega))) rfl ?_
    refine OQ.ex rfl (fun w H => (by first | exact Ex.loadRT Try.isAgg3 rfl | exact Ex.loadRA Try.isAgg3 rfl | exact Ex.loadRN Try.isAgg3 rfl | exact Ex.loadRM Try.isAgg3 rfl | exact Ex.loadR Try.isAgg3 rfl | exact Ex.loadIn1 Try.isAgg3 rfl (Holds.to (by assumption)) | exact Ex.loadInF Try.isAgg3 rfl (Holds.to (by assumption)) | exact Ex.loadP Try.isAgg3 rfl | exact Ex.loadMh Try.isAgg3 rfl | exact Ex.loadM Try.isAgg3 rfl | exact Ex.loadVc Try.isAgg3 rfl | exact Ex.loadQ Try.isAgg3 rfl)) rfl ?_
    refine OQ.ex rfl (fun w H => (by first | exact Ex.nilPtr rfl | exact Ex.nilFunc rfl | exact Ex.nilYield rfl)) rfl ?_
    refine OQ.ex rfl (fun w H => (by first | exact Ex.field0 fld45_3 rfl | exact Ex.field fld45_3 rfl | exact Ex.fieldS fld45_3 rfl | exact Ex.fieldIn fld45_3 rfl)) rfl ?_
    refine OQ.ex rfl (fun w H => (Ex.idxArr Try.runUnderlying43 Try.sizeOf42 rfl rfl)) rfl ?_
    refine OQ.ex rfl (fun w H => (by first | exact Ex.loadRArc Try.isAgg42 Try.sizeOf42 rfl | exact Ex.loadAggP Try.isAgg42 Try.sizeOf42 rfl | exact Ex.loadAggN Try.isAgg42 Try.sizeOf42 rfl | exact Ex.loadIn Try.isAgg42 Try.sizeOf42 rfl (Holds.to (by assumption)))) rfl ?_
    refine OQ.step rfl ?_
    refine O.allocP Try.zeroValue42 (fun b10 w H => ?_)
    refine O.thenNil ⟨(by first | exact Holds.to (by assumption) | assumption), ?_⟩
    refine OQ.last rfl (by decide +kernel) ?_
    first | refine O.storeAggP Try.sizeOf42 rfl rfl rfl rfl (fun w H => ?_) | refine O.storeAggN Try.sizeOf42 rfl rfl rfl (fun w H => ?_) rfl
    refine O.nil ?_
    refine hK8 _ _ _ ?_
    refine W.seq (fun K9 hK9 => ?_)
    refine W.region ?_
    refine O.ex (Ex.move rfl) rfl ?_
    refine O.ex (by first | exact Ex.notD rfl | exact Ex.not rfl) rfl ?_
    refine O.ex (Ex.move rfl) rfl ?_
    refine O.known (t := 30) (c := false) rfl (by first | rfl | decide | (simp; done) | omega) ?_
    refine O.guard_f rfl rfl rfl rfl ?_
    refine O.guard_f rfl rfl rfl rfl ?_
    refine O.guard_f rfl rfl rfl rfl ?_
    refine O.guard_f rfl rfl rfl rfl ?_
    refine O.ex (Ex.pick_f rfl rfl) rfl ?_
    refine O.ex (Ex.move rfl) rfl ?_
    refine O.guard_t rfl rfl ?_
    refine O.ex (Ex.move rfl) rfl ?_
    refine O.guard_t rfl rfl ?_
    refine O.ex (Ex.move rfl) rfl ?_
    refine O.known (t := 38) (c := true) rfl (by first | rfl | decide | (simp; done) | omega) ?_
    refine O.guard_t rfl rfl ?_
    refine O.ex (by first | exact Ex.field0 fld42_1 rfl | exact Ex.field fld42_1 rfl | exact Ex.fieldS fld42_1 rfl | exact Ex.fieldIn fld42_1 rfl) rfl ?_
    refine O.guard_t rfl rfl ?_
    refine O.ex (by first | exact Ex.loadRT Try.isAgg3 rfl | exact Ex.loadRA Try.isAgg3 rfl | exact Ex.loadRN Try.isAgg3 rfl | exact Ex.loadRM Try.isAgg3 rfl | exact Ex.loadMh Try.isAgg3 rfl | exact Ex.loadInF Try.isAgg3 rfl (Holds.to (by assumption)) | exact Ex.loadP Try.isAgg3 rfl | exact Ex.loadM Try.isAgg3 rfl | exact Ex.loadIn1 Try.isAgg3 rfl (Holds.to (by assumption)) | exact Ex.loadVc Try.isAgg3 rfl | exact Ex.loadR Try.isAgg3 rfl | exact Ex.loadQ Try.isAgg3 rfl) rfl ?_
    refine O.guard_t rfl rfl ?_
    refine O.ex (Ex.move rfl) rfl ?_
    refine O.guard_t rfl rfl ?_
    refine O.ex (Ex.eqlI rfl rfl) rfl ?_
    refine O.guard_t rfl rfl ?_
    refine O.ex (Ex.pick_t rfl rfl) rfl ?_
    refine O.ex (Ex.pick_f rfl rfl) rfl ?_
    refine O.nil ?_
    refine hK9 _ _ _ ?_
    first | refine W.cond_p rfl (fun hA => ?_) (fun hB => ?_) | refine W.cond_b rfl (fun hA => ?_) (fun hB => ?_)
    · refine W.region ?_
      refine O.ex (Ex.move rfl) rfl ?_
      refine O.ex (Ex.move rfl) rfl ?_
      refine O.ex (Ex.move rfl) rfl ?_
      refine O.ex (by first | exact Ex.idxR Try.runUnderlying28 Try.sizeOf3 rfl rfl | exact Ex.idxIn Try.runUnderlying28 Try.sizeOf3 rfl rfl | exact Ex.idxS Try.runUnderlying28 Try.sizeOf3 rfl rfl | exact Ex.idx Try.runUnderlying28 Try.sizeOf3 rfl rfl (by omega) (by omega)) rfl ?_
      refine O.ex (by first | exact Ex.loadRT Try.isAgg3 rfl | exact Ex.loadRA Try.isAgg3 rfl | exact Ex.loadRN Try.isAgg3 rfl | exact Ex.loadRM Try.isAgg3 rfl | exact Ex.loadR Try.isAgg3 rfl | exact Ex.loadIn1 Try.isAgg3 rfl (Holds.to (by assumption)) | exact Ex.loadInF Try.isAgg3 rfl (Holds.to (by assumption)) | exact Ex.loadP Try.isAgg3 rfl | exact Ex.loadMh Try.isAgg3 rfl | exact Ex.loadM Try.isAgg3 rfl | exact Ex.loadVc Try.isAgg3 rfl | exact Ex.loadQ Try.isAgg3 rfl) rfl ?_
      refine O.build1 (e := Value.int .i64) Try.runUnderlying28 Try.sizeOf3 Try.zeroValue3 rfl (fun v50 w hv50 H => ?_)
      refine O.appendR Try.runUnderlying28 Try.typeInfo3 (bt := 8) rfl Try.sizeOf3 Try.zeroValue3 rfl rfl (fun v51 w hv51 H => ?_)
      refine O.ex (Ex.assign rfl) rfl ?_
      refine O.nil ?_
      refine hK7 _ _ _ ?_
      refine W.region ?_
      refine O.ex (Ex.move rfl) rfl ?_
      refine O.ex (by first | exact Ex.addI rfl rfl | exact Ex.add rfl rfl rfl) rfl ?_
      refine O.ex (Ex.assign rfl) rfl ?_
      refine O.nil ?_
      first
      | exact ⟨(i + 1, v51), ⟨rfl, rfl, rfl, rfl, rfl, rfl, trivial⟩, ⟨rfl, by dsimp only; omega, hv51, by rw [esu, if_pos (show endP s v true ((idsI s).getD i default).toNat = true from decide_eq_true hA)]; exact Holds.to (by assumption)⟩, by dsimp only; omega⟩
      | exact ⟨(i + 1, u), ⟨rfl, rfl, rfl, rfl, rfl, rfl, trivial⟩, ⟨rfl, by dsimp only; omega, hu, by rw [esu, if_neg (show ¬ endP s v true ((idsI s).getD i default).toNat = true from fun hh => hB (of_decide_eq_true hh)), List.append_nil]; exact Holds.to (by assumption)⟩, by dsimp only; omega⟩
    · refine W.skip ?_
      refine hK7 _ _ _ ?_
      refine W.region ?_
      refine O.ex (Ex.move rfl) rfl ?_
      refine O.ex (by first | exact Ex.addI rfl rfl | exact Ex.add rfl rfl rfl) rfl ?_
      refine O.ex (Ex.assign rfl) rfl ?_
      refine O.nil ?_
      first
      | exact ⟨(i + 1, v51), ⟨rfl, rfl, rfl, rfl, rfl, rfl, trivial⟩, ⟨rfl, by dsimp only; omega, hv51, by rw [esu, if_pos (show endP s v true ((idsI s).getD i default).toNat = true from decide_eq_true hA)]; exact Holds.to (by assumption)⟩, by dsimp only; omega⟩
      | exact ⟨(i + 1, u), ⟨rfl, rfl, rfl, rfl, rfl, rfl, trivial⟩, ⟨rfl, by dsimp only; omega, hu, by rw [esu, if_neg (show ¬ endP s v true ((idsI s).getD i default).toNat = true from fun hh => hB (of_decide_eq_true hh)), List.append_nil]; exact Holds.to (by assumption)⟩, by dsimp only; omega⟩
  · refine W.exit ?_
    refine hK3 _ _ _ ?_
    refine W.seq (fun K10 hK10 => ?_)
    refine W.region ?_
    refine O.ex (Ex.move rfl) rfl ?_
    refine O.ex (Ex.assign rfl) rfl ?_
    refine O.nil ?_
    refine hK10 _ _ _ ?_
    refine W.ret ?_
    try dsimp only [thenQ, blockQ, retQ]
    first | refine ⟨_, ⟨_, _, rfl, rfl, rfl⟩, ?_⟩ | (refine retD_mark ?_; intro w H; refine ⟨_, ⟨_, _, rfl, rfl, rfl⟩, ?_⟩) | (refine retD_mark2 ?_; intro w H; refine ⟨_, ⟨_, _, rfl, rfl, rfl⟩, ?_⟩)
    obtain rfl : i = (idsI s).length := by omega
    refine ⟨hu, ?_⟩
    rw [← endP_all]
    unfold endT at H
    rw [List.take_length] at H
    exact Holds.to H
def bstR (s : St) (t h : Int) (b : Int × Int) (i : Int) : Int × Int := if ((s i.toNat).a.t = t ∧ (s i.toNat).a.h = h ∧ (s i.toNat).a.cl = false) ∧ (s i.toNat).a.w < b.1 then ((s i.toNat).a.w, i) else b
def bestR (s : St) (t h : Int) (l : List Int) : Int × Int := l.foldl (bstR s t h) (4611686018427387906, -1)
theorem bestR_snoc (s : St) (t h : Int) (l : List Int) (i : Int) : bestR s t h (l ++ [i]) = bstR s t h (bestR s t h l) i := by unfold bestR; rw [List.foldl_append]; rfl
theorem bestR_all (s : St) (t h : Int) : bestR s t h (idsI s) = best s t h := by
  unfold best bestL
  have e : outI s t = (idsI s).filter (fun x => endP s t false x.toNat) := (endP_all s t false).symm
  rw [e, List.foldl_filter]
  unfold bestR
  congr 1
  funext b i
  unfold bstR bst1 endP
  by_cases h1 : (s i.toNat).a.t = t
  · simp [h1]
  · simp [h1]
end Go.Proofs.Ytliofdfhimmjmaa
