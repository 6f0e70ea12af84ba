import Derived.Test.YtblapiiinbppiaaLaw08
--ARR
--INF
--DEEP
--LOADS loadRT loadRA loadRN loadRM
--AGGLOADS loadRArc
namespace Go.Proofs.Ytblapiiinbppiaa
open Go.Rr Go Gr
set_option linter.unusedVariables false
theorem lstP_filter (p q : Nat → Bool) : (lstP p).filter (fun x => q x.toNat) = lstP fun i => p i && q i := by
  unfold lstP
  rw [List.filter_map, List.filter_filter]
  congr 1
  exact List.filter_congr fun i _ => by show (q ((i : Int)).toNat && p i) = (p i && q i); rw [Int.toNat_natCast, Bool.and_comm]
theorem take_getC (xs : List Int) {i : Nat} (h : i < xs.length) : xs.take (i + 1) = xs.take i ++ [xs.getD i default] := by
  rw [List.take_succ_eq_append_getElem h]; simp [List.getD_eq_getElem?_getD, h]
theorem ids_rng {s : St} {i : Nat} (h : i < (idsI s).length) : (0 ≤ (idsI s).getD i default ∧ (idsI s).getD i default < 64) ∧ tkP s ((idsI s).getD i default).toNat = true := mem_lstP.1 (mem_getL h)
def endP (s : St) (v : Int) (b : Bool) : Nat → Bool := fun i => if b then decide ((s i).a.h = v) else decide ((s i).a.t = v)
def endI (s : St) (v : Int) (b : Bool) : List Int := if b then inI s v else outI s v
theorem endP_all (s : St) (v : Int) (b : Bool) : (idsI s).filter (fun x => endP s v b x.toNat) = endI s v b := by
  unfold idsI
  rw [lstP_filter]
  cases b <;> rfl
def endT (s : St) (v : Int) (b : Bool) (i : Nat) : List Int := ((idsI s).take i).filter fun x => endP s v b x.toNat
theorem endT_len (s : St) (v : Int) (b : Bool) (i : Nat) : (endT s v b i).length ≤ 64 := by
  unfold endT
  have h1 := List.length_filter_le (fun x : Int => endP s v b x.toNat) ((idsI s).take i)
  have h2 := lstP_len (tkP s)
  have h3 : (idsI s).length ≤ 64 := h2
  rw [List.length_take] at h1
  omega
theorem endT_succ {s : St} {v : Int} {b : Bool} {i : Nat} (h : i < (idsI s).length) : endT s v b (i + 1) = endT s v b i ++ (if endP s v b ((idsI s).getD i default).toNat = true then [(idsI s).getD i default] else []) := by
  unfold endT
  rw [take_getC _ h, List.filter_append]
  congr 1
  by_cases e : endP s v b ((idsI s).getD i default).toNat = true
  · rw [if_pos e]; exact List.filter_cons_of_pos (p := fun x : Int => endP s v b x.toNat) e
  · rw [if_neg e]; exact List.filter_cons_of_neg (p := fun x : Int => endP s v b x.toNat) e
def bstR (s : St) (t h : Int) (b : Int × Int) (i : Int) : Int × Int := if ((s i.toNat).a.t = t ∧ (s i.toNat).a.h = h ∧ (s i.toNat).a.cl = false) ∧ (s i.toNat).a.w < b.1 then ((s i.toNat).a.w, i) else b
def bestR (s : St) (t h : Int) (l : List Int) : Int × Int := l.foldl (bstR s t h) (4611686018427387906, -1)
theorem bestR_snoc (s : St) (t h : Int) (l : List Int) (i : Int) : bestR s t h (l ++ [i]) = bstR s t h (bestR s t h l) i := by unfold bestR; rw [List.foldl_append]; rfl
theorem bestR_all (s : St) (t h : Int) : bestR s t h (idsI s) = best s t h := by
  unfold best bestL
  have e : outI s t = (idsI s).filter (fun x => endP s t false x.toNat) := (endP_all s t false).symm
  rw [e, List.foldl_filter]
  unfold bestR
  congr 1
  funext b i
  unfold bstR bst1 endP
  by_cases h1 : (s i.toNat).a.t = t
  · simp [h1]
  · simp [h1]
set_option maxHeartbeats 1000000 in
theorem rbest_ct {w : World} {r : Nat} {n most t h : Int} {s : St} {L : List HProp} (H : Holds w (Rg r n most s :: L)) :
    CT Try.prog 73 [.pointer (some ⟨r, 0, none⟩), .int .i64 t, .int .i64 h] w fun u w' => u = .tuple #[.int .i64 (best s t h).1, .int .i64 (best s t h).2] ∧ Holds w' (Rg r n most s :: L) := by
  have hll' : (idsI s).length ≤ 64 := lstP_len (tkP s)
  refine CT.enter (N := 59) Try.func73 rfl rfl rfl rfl ?_
  refine W.seq (fun K0 hK0 => ?_)
  refine W.region ?_
  refine O.ex (Ex.assign rfl) rfl ?_
  refine O.ex (Ex.assign rfl) rfl ?_
  refine O.nil ?_
  refine hK0 _ _ _ ?_
  refine W.seq (fun K1 hK1 => ?_)
  refine W.region ?_
  refine O.ex (Ex.assign rfl) rfl ?_
  refine O.nil ?_
  refine hK1 _ _ _ ?_
  refine W.seq (fun K2 hK2 => ?_)
  refine W.region ?_
  refine O.ex (Ex.assign rfl) rfl ?_
  refine O.nil ?_
  refine hK2 _ _ _ ?_
  refine W.seq (fun K3 hK3 => ?_)
  refine W.region ?_
  refine O.ex (Ex.move rfl) rfl ?_
  refine O.callF Try.call97 rfl rfl (CT.mono (rids_ct (Holds.to (by assumption))) ?_)
  rintro _ w ⟨hu1, H⟩
  rename_i iv
  refine O.ex (Ex.assign rfl) rfl ?_
  refine O.nil ?_
  refine hK3 _ _ _ ?_
  refine W.seq (fun K4 hK4 => ?_)
  refine W.seq (fun K5 hK5 => ?_)
  refine W.region ?_
  refine O.ex (Ex.assign rfl) rfl ?_
  refine O.nil ?_
  refine hK5 _ _ _ ?_
  refine W.block ?_
  refine W.loop (σ := Nat) (fun i => [(0, .pointer (some ⟨r, 0, none⟩)), (1, .int .i64 t), (2, .int .i64 h), (8, .int .i64 (bestR s t h ((idsI s).take i)).1), (9, .int .i64 (bestR s t h ((idsI s).take i)).2), (10, iv), (11, .int .i64 (i : Int))]) (fun i ds w => ds = [] ∧ i ≤ (idsI s).length ∧ Holds w (arr 3 (Value.int .i64) iv (idsI s) :: Rg r n most s :: L)) (fun i => (idsI s).length - i) 0 ⟨rfl, rfl, rfl, rfl, rfl, rfl, rfl, trivial⟩ ⟨rfl, by omega, Holds.to (by assumption)⟩ ?_
  clear H
  rintro i _ w ⟨rfl, hi, H⟩
  refine W.seq (fun K6 hK6 => ?_)
  refine W.seq (fun K7 hK7 => ?_)
  refine W.region ?_
  refine O.ex (Ex.move rfl) rfl ?_
  refine O.ex (Ex.move rfl) rfl ?_
  refine O.ex (by first | exact Ex.lenR Try.runUnderlying51 rfl | exact Ex.lenIn Try.runUnderlying51 rfl | exact Ex.lenL Try.runUnderlying51 rfl | exact Ex.len rfl Try.runUnderlying51 rfl) rfl ?_
  refine O.ex (Ex.lss rfl rfl) rfl ?_
  refine O.nil ?_
  refine hK7 _ _ _ ?_
  first | refine W.cond_p rfl (fun hlt => ?_) (fun hge => ?_) | refine W.cond_b rfl (fun hlt => ?_) (fun hge => ?_)
  · refine W.skip ?_
    refine hK6 _ _ _ ?_
    refine W.seq (fun K8 hK8 => ?_)
    refine W.block ?_
    refine W.seq (fun K9 hK9 => ?_)
    have hil : i < (idsI s).length := by omega
    obtain ⟨⟨r0, r1⟩, r2⟩ := ids_rng hil
    have esu := bestR_snoc s t h ((idsI s).take i) ((idsI s).getD i default)
    rw [← take_getC _ hil] at esu
    refine W.drawTo _ (.take 0 (.take 1 (.take 2 (.take 3 (.take 4 (.take 5 (.take 6 (.take 7 (.take 8 (.one 9 (.one 10 .nil))))))))))) (mixed) (fun _ _ _ _ h => h) (by assumption) (PP.refl _) (by decide +kernel) (fun w H => ?_)
    refine OQ.ex rfl (fun w H => (Ex.move rfl)) rfl ?_
    refine OQ.ex rfl (fun w H => (Ex.move rfl)) rfl ?_
    refine OQ.ex rfl (fun w H => (Ex.move rfl)) rfl ?_
    refine OQ.ex rfl (fun w H => (by first | exact Ex.idxR Try.runUnderlying51 Try.sizeOf3 rfl rfl | exact Ex.idxIn Try.runUnderlying51 Try.sizeOf3 rfl rfl | exact Ex.idxS Try.runUnderlying51 Try.sizeOf3 rfl rfl | exact Ex.idx Try.runUnderlying51 Try.sizeOf3 rfl rfl (by omega) (by omega))) rfl ?_
    refine OQ.ex rfl (fun w H => (by first | exact Ex.loadRT Try.isAgg3 rfl | exact Ex.loadRA Try.isAgg3 rfl | exact Ex.loadRN Try.isAgg3 rfl | exact Ex.loadRM Try.isAgg3 rfl | exact Ex.loadR Try.isAgg3 rfl | exact Ex.loadIn1 Try.isAgg3 rfl (Holds.to (by assumption)) | exact Ex.loadInF Try.isAgg3 rfl (Holds.to (by assumption)) | exact Ex.loadP Try.isAgg3 rfl | exact Ex.loadMh Try.isAgg3 rfl | exact Ex.loadM Try.isAgg3 rfl | exact Ex.loadVc Try.isAgg3 rfl | exact Ex.loadQ Try.isAgg3 rfl)) rfl ?_
    refine OQ.ex rfl (fun w H => (by first | exact Ex.nilPtr rfl | exact Ex.nilFunc rfl | exact Ex.nilYield rfl)) rfl ?_
    refine OQ.ex rfl (fun w H => (by first | exact Ex.field0 fld128_3 rfl | exact Ex.field fld128_3 rfl | exact Ex.fieldS fld128_3 rfl | exact Ex.fieldIn fld128_3 rfl)) rfl ?_
    refine OQ.ex rfl (fun w H => (Ex.idxArr Try.runUnderlying126 Try.sizeOf119 rfl rfl)) rfl ?_
    refine OQ.ex rfl (fun w H => (by first | exact Ex.loadRArc Try.isAgg119 Try.sizeOf119 rfl | exact Ex.loadAggP Try.isAgg119 Try.sizeOf119 rfl | exact Ex.loadAggN Try.isAgg119 Try.sizeOf119 rfl | exact Ex.loadIn Try.isAgg119 Try.sizeOf119 rfl (Holds.to (by assumption)))) rfl ?_
    refine OQ.step rfl ?_
    refine O.allocP Try.zeroValue119 (fun b12 w H => ?_)
    refine O.thenNil ⟨(by first | exact Holds.to (by assumption) | assumption), ?_⟩
    refine OQ.last rfl (by decide +kernel) ?_
    first | refine O.storeAggP Try.sizeOf119 rfl rfl rfl rfl (fun w H => ?_) | refine O.storeAggN Try.sizeOf119 rfl rfl rfl (fun w H => ?_) rfl
    refine O.nil ?_
    refine hK9 _ _ _ ?_
    refine W.seq (fun K10 hK10 => ?_)
    refine W.region ?_
    refine O.ex (by first | exact Ex.field0 fld119_0 rfl | exact Ex.field fld119_0 rfl | exact Ex.fieldS fld119_0 rfl | exact Ex.fieldIn fld119_0 rfl) rfl ?_
    refine O.ex (by first | exact Ex.loadRT Try.isAgg3 rfl | exact Ex.loadRA Try.isAgg3 rfl | exact Ex.loadRN Try.isAgg3 rfl | exact Ex.loadRM Try.isAgg3 rfl | exact Ex.loadMh Try.isAgg3 rfl | exact Ex.loadInF Try.isAgg3 rfl (Holds.to (by assumption)) | exact Ex.loadP Try.isAgg3 rfl | exact Ex.loadM Try.isAgg3 rfl | exact Ex.loadIn1 Try.isAgg3 rfl (Holds.to (by assumption)) | exact Ex.loadVc Try.isAgg3 rfl | exact Ex.loadR Try.isAgg3 rfl | exact Ex.loadQ Try.isAgg3 rfl) rfl ?_
    refine O.ex (Ex.move rfl) rfl ?_
    refine O.ex (Ex.eqlI rfl rfl) rfl ?_
    refine O.ex (Ex.move rfl) rfl ?_
    first | refine O.split_p (t := 34) rfl (fun hA => ?_) (fun hB => ?_) | refine O.split (t := 34) rfl (fun hA => ?_) (fun hB => ?_)
    · refine O.guard_t rfl rfl ?_
      refine O.ex (by first | exact Ex.field0 fld119_1 rfl | exact Ex.field fld119_1 rfl | exact Ex.fieldS fld119_1 rfl | exact Ex.fieldIn fld119_1 rfl) rfl ?_
      refine O.guard_t rfl rfl ?_
      refine O.ex (by first | exact Ex.loadRT Try.isAgg3 rfl | exact Ex.loadRA Try.isAgg3 rfl | exact Ex.loadRN Try.isAgg3 rfl | exact Ex.loadRM Try.isAgg3 rfl | exact Ex.loadMh Try.isAgg3 rfl | exact Ex.loadInF Try.isAgg3 rfl (Holds.to (by assumption)) | exact Ex.loadP Try.isAgg3 rfl | exact Ex.loadM Try.isAgg3 rfl | exact Ex.loadIn1 Try.isAgg3 rfl (Holds.to (by assumption)) | exact Ex.loadVc Try.isAgg3 rfl | exact Ex.loadR Try.isAgg3 rfl | exact Ex.loadQ Try.isAgg3 rfl) rfl ?_
      refine O.guard_t rfl rfl ?_
      refine O.ex (Ex.move rfl) rfl ?_
      refine O.guard_t rfl rfl ?_
      refine O.ex (Ex.eqlI rfl rfl) rfl ?_
      refine O.ex (Ex.pick_t rfl rfl) rfl ?_
      refine O.ex (Ex.move rfl) rfl ?_
      first | refine O.split_p (t := 40) rfl (fun hC => ?_) (fun hD => ?_) | refine O.split (t := 40) rfl (fun hC => ?_) (fun hD => ?_)
      · refine O.guard_t rfl rfl ?_
        refine O.ex (by first | exact Ex.field0 fld119_3 rfl | exact Ex.field fld119_3 rfl | exact Ex.fieldS fld119_3 rfl | exact Ex.fieldIn fld119_3 rfl) rfl ?_
        refine O.guard_t rfl rfl ?_
        refine O.ex (by first | exact Ex.loadRT Try.isAgg4 rfl | exact Ex.loadRA Try.isAgg4 rfl | exact Ex.loadRN Try.isAgg4 rfl | exact Ex.loadRM Try.isAgg4 rfl | exact Ex.loadMh Try.isAgg4 rfl | exact Ex.loadInF Try.isAgg4 rfl (Holds.to (by assumption)) | exact Ex.loadP Try.isAgg4 rfl | exact Ex.loadM Try.isAgg4 rfl | exact Ex.loadIn1 Try.isAgg4 rfl (Holds.to (by assumption)) | exact Ex.loadVc Try.isAgg4 rfl | exact Ex.loadR Try.isAgg4 rfl | exact Ex.loadQ Try.isAgg4 rfl) rfl ?_
        refine O.guard_t rfl rfl ?_
        refine O.ex (by first | exact Ex.notD rfl | exact Ex.not rfl) rfl ?_
        refine O.ex (Ex.pick_t rfl rfl) rfl ?_
        refine O.ex (Ex.move rfl) rfl ?_
        first | refine O.split_p (t := 45) rfl (fun hE => ?_) (fun hF => ?_) | refine O.split (t := 45) rfl (fun hE => ?_) (fun hF => ?_)
        · refine O.guard_t rfl rfl ?_
          refine O.ex (by first | exact Ex.field0 fld119_2 rfl | exact Ex.field fld119_2 rfl | exact Ex.fieldS fld119_2 rfl | exact Ex.fieldIn fld119_2 rfl) rfl ?_
          refine O.guard_t rfl rfl ?_
          refine O.ex (by first | exact Ex.loadRT Try.isAgg3 rfl | exact Ex.loadRA Try.isAgg3 rfl | exact Ex.loadRN Try.isAgg3 rfl | exact Ex.loadRM Try.isAgg3 rfl | exact Ex.loadMh Try.isAgg3 rfl | exact Ex.loadInF Try.isAgg3 rfl (Holds.to (by assumption)) | exact Ex.loadP Try.isAgg3 rfl | exact Ex.loadM Try.isAgg3 rfl | exact Ex.loadIn1 Try.isAgg3 rfl (Holds.to (by assumption)) | exact Ex.loadVc Try.isAgg3 rfl | exact Ex.loadR Try.isAgg3 rfl | exact Ex.loadQ Try.isAgg3 rfl) rfl ?_
          refine O.guard_t rfl rfl ?_
          refine O.ex (Ex.move rfl) rfl ?_
          refine O.guard_t rfl rfl ?_
          refine O.ex (Ex.lss rfl rfl) rfl ?_
          refine O.ex (Ex.pick_t rfl rfl) rfl ?_
          refine O.nil ?_
          refine hK10 _ _ _ ?_
          first | refine W.cond_p rfl (fun hG => ?_) (fun hI => ?_) | refine W.cond_b rfl (fun hG => ?_) (fun hI => ?_)
          · refine W.seq (fun K11 hK11 => ?_)
            refine W.region ?_
            refine O.ex (by first | exact Ex.field0 fld119_2 rfl | exact Ex.field fld119_2 rfl | exact Ex.fieldS fld119_2 rfl | exact Ex.fieldIn fld119_2 rfl) rfl ?_
            refine O.ex (by first | exact Ex.loadRT Try.isAgg3 rfl | exact Ex.loadRA Try.isAgg3 rfl | exact Ex.loadRN Try.isAgg3 rfl | exact Ex.loadRM Try.isAgg3 rfl | exact Ex.loadMh Try.isAgg3 rfl | exact Ex.loadInF Try.isAgg3 rfl (Holds.to (by assumption)) | exact Ex.loadP Try.isAgg3 rfl | exact Ex.loadM Try.isAgg3 rfl | exact Ex.loadIn1 Try.isAgg3 rfl (Holds.to (by assumption)) | exact Ex.loadVc Try.isAgg3 rfl | exact Ex.loadR Try.isAgg3 rfl | exact Ex.loadQ Try.isAgg3 rfl) rfl ?_
            refine O.ex (Ex.assign rfl) rfl ?_
            refine O.nil ?_
            refine hK11 _ _ _ ?_
            refine W.region ?_
            refine O.ex (Ex.move rfl) rfl ?_
            refine O.ex (Ex.move rfl) rfl ?_
            refine O.ex (by first | exact Ex.idxR Try.runUnderlying51 Try.sizeOf3 rfl rfl | exact Ex.idxIn Try.runUnderlying51 Try.sizeOf3 rfl rfl | exact Ex.idxS Try.runUnderlying51 Try.sizeOf3 rfl rfl | exact Ex.idx Try.runUnderlying51 Try.sizeOf3 rfl rfl (by omega) (by omega)) rfl ?_
            refine O.ex (by first | exact Ex.loadRT Try.isAgg3 rfl | exact Ex.loadRA Try.isAgg3 rfl | exact Ex.loadRN Try.isAgg3 rfl | exact Ex.loadRM Try.isAgg3 rfl | exact Ex.loadR Try.isAgg3 rfl | exact Ex.loadIn1 Try.isAgg3 rfl (Holds.to (by assumption)) | exact Ex.loadInF Try.isAgg3 rfl (Holds.to (by assumption)) | exact Ex.loadP Try.isAgg3 rfl | exact Ex.loadMh Try.isAgg3 rfl | exact Ex.loadM Try.isAgg3 rfl | exact Ex.loadVc Try.isAgg3 rfl | exact Ex.loadQ Try.isAgg3 rfl) rfl ?_
            refine O.ex (Ex.assign rfl) rfl ?_
            refine O.nil ?_
            refine hK8 _ _ _ ?_
            refine W.region ?_
            refine O.ex (Ex.move rfl) rfl ?_
            refine O.ex (by first | exact Ex.addI rfl rfl | exact Ex.add rfl rfl rfl) rfl ?_
            refine O.ex (Ex.assign rfl) rfl ?_
            refine O.nil ?_
            by_cases hb : ((s ((idsI s).getD i default).toNat).a.t = t ∧ (s ((idsI s).getD i default).toNat).a.h = h ∧ (s ((idsI s).getD i default).toNat).a.cl = false) ∧ (s ((idsI s).getD i default).toNat).a.w < (bestR s t h ((idsI s).take i)).1
            · have e : bstR s t h (bestR s t h ((idsI s).take i)) ((idsI s).getD i default) = ((s ((idsI s).getD i default).toNat).a.w, (idsI s).getD i default) := if_pos hb
              rw [e] at esu
              first
              | exact absurd hb.1.1 hB
              | exact absurd hb.1.2.1 hD
              | exact absurd hb.2 hI
              | (have h8 : (!(s ((idsI s).getD i default).toNat).a.cl) = false := hF
                 rw [hb.1.2.2] at h8; cases h8)
              | exact ⟨i + 1, ⟨rfl, rfl, rfl, by rw [esu]; rfl, by rw [esu]; rfl, rfl, rfl, trivial⟩, ⟨rfl, by omega, Holds.to (by assumption)⟩, by omega⟩
            · have e : bstR s t h (bestR s t h ((idsI s).take i)) ((idsI s).getD i default) = bestR s t h ((idsI s).take i) := if_neg hb
              rw [e] at esu
              first
              | exact ⟨i + 1, ⟨rfl, rfl, rfl, by rw [esu]; rfl, by rw [esu]; rfl, rfl, rfl, trivial⟩, ⟨rfl, by omega, Holds.to (by assumption)⟩, by omega⟩
              | exact absurd ⟨⟨hA, hC, by simpa using hE⟩, hG⟩ hb
          · refine W.skip ?_
            refine hK8 _ _ _ ?_
            refine W.region ?_
            refine O.ex (Ex.move rfl) rfl ?_
            refine O.ex (by first | exact Ex.addI rfl rfl | exact Ex.add rfl rfl rfl) rfl ?_
            refine O.ex (Ex.assign rfl) rfl ?_
            refine O.nil ?_
            by_cases hb : ((s ((idsI s).getD i default).toNat).a.t = t ∧ (s ((idsI s).getD i default).toNat).a.h = h ∧ (s ((idsI s).getD i default).toNat).a.cl = false) ∧ (s ((idsI s).getD i default).toNat).a.w < (bestR s t h ((idsI s).take i)).1
            · have e : bstR s t h (bestR s t h ((idsI s).take i)) ((idsI s).getD i default) = ((s ((idsI s).getD i default).toNat).a.w, (idsI s).getD i default) := if_pos hb
              rw [e] at esu
              first
              | exact absurd hb.1.1 hB
              | exact absurd hb.1.2.1 hD
              | exact absurd hb.2 hI
              | (have h8 : (!(s ((idsI s).getD i default).toNat).a.cl) = false := hF
                 rw [hb.1.2.2] at h8; cases h8)
              | exact ⟨i + 1, ⟨rfl, rfl, rfl, by rw [esu]; rfl, by rw [esu]; rfl, rfl, rfl, trivial⟩, ⟨rfl, by omega, Holds.to (by assumption)⟩, by omega⟩
            · have e : bstR s t h (bestR s t h ((idsI s).take i)) ((idsI s).getD i default) = bestR s t h ((idsI s).take i) := if_neg hb
              rw [e] at esu
              first
              | exact ⟨i + 1, ⟨rfl, rfl, rfl, by rw [esu]; rfl, by rw [esu]; rfl, rfl, rfl, trivial⟩, ⟨rfl, by omega, Holds.to (by assumption)⟩, by omega⟩
              | exact absurd ⟨⟨hA, hC, by simpa using hE⟩, hG⟩ hb
        · refine O.guard_f rfl rfl rfl rfl ?_
          refine O.guard_f rfl rfl rfl rfl ?_
          refine O.guard_f rfl rfl rfl rfl ?_
          refine O.guard_f rfl rfl rfl rfl ?_
          refine O.ex (Ex.pick_f rfl rfl) rfl ?_
          refine O.nil ?_
          refine hK10 _ _ _ ?_
          refine W.cond_f rfl ?_
          refine W.skip ?_
          refine hK8 _ _ _ ?_
          refine W.region ?_
          refine O.ex (Ex.move rfl) rfl ?_
          refine O.ex (by first | exact Ex.addI rfl rfl | exact Ex.add rfl rfl rfl) rfl ?_
          refine O.ex (Ex.assign rfl) rfl ?_
          refine O.nil ?_
          by_cases hb : ((s ((idsI s).getD i default).toNat).a.t = t ∧ (s ((idsI s).getD i default).toNat).a.h = h ∧ (s ((idsI s).getD i default).toNat).a.cl = false) ∧ (s ((idsI s).getD i default).toNat).a.w < (bestR s t h ((idsI s).take i)).1
          · have e : bstR s t h (bestR s t h ((idsI s).take i)) ((idsI s).getD i default) = ((s ((idsI s).getD i default).toNat).a.w, (idsI s).getD i default) := if_pos hb
            rw [e] at esu
            first
            | exact absurd hb.1.1 hB
            | exact absurd hb.1.2.1 hD
            | exact absurd hb.2 hI
            | (have h8 : (!(s ((idsI s).getD i default).toNat).a.cl) = false := hF
               rw [hb.1.2.2] at h8; cases h8)
            | exact ⟨i + 1, ⟨rfl, rfl, rfl, by rw [esu]; rfl, by rw [esu]; rfl, rfl, rfl, trivial⟩, ⟨rfl, by omega, Holds.to (by assumption)⟩, by omega⟩
          · have e : bstR s t h (bestR s t h ((idsI s).take i)) ((idsI s).getD i default) = bestR s t h ((idsI s).take i) := if_neg hb
            rw [e] at esu
            first
            | exact ⟨i + 1, ⟨rfl, rfl, rfl, by rw [esu]; rfl, by rw [esu]; rfl, rfl, rfl, trivial⟩, ⟨rfl, by omega, Holds.to (by assumption)⟩, by omega⟩
            | exact absurd ⟨⟨hA, hC, by simpa using hE⟩, hG⟩ hb
      · refine O.guard_f rfl rfl rfl rfl ?_
        refine O.guard_f rfl rfl rfl rfl ?_
        refine O.guard_f rfl rfl rfl rfl ?_
        refine O.ex (Ex.pick_f rfl rfl) rfl ?_
        refine O.ex (Ex.move rfl) rfl ?_
        refine O.guard_f rfl rfl rfl rfl ?_
        refine O.guard_f rfl rfl rfl rfl ?_
        refine O.guard_f rfl rfl rfl rfl ?_
        refine O.guard_f rfl rfl rfl rfl ?_
        refine O.ex (Ex.pick_f rfl rfl) rfl ?_
        refine O.nil ?_
        refine hK10 _ _ _ ?_
        refine W.cond_f rfl ?_
        refine W.skip ?_
        refine hK8 _ _ _ ?_
        refine W.region ?_
        refine O.ex (Ex.move rfl) rfl ?_
        refine O.ex (by first | exact Ex.addI rfl rfl | exact Ex.add rfl rfl rfl) rfl ?_
        refine O.ex (Ex.assign rfl) rfl ?_
        refine O.nil ?_
        by_cases hb : ((s ((idsI s).getD i default).toNat).a.t = t ∧ (s ((idsI s).getD i default).toNat).a.h = h ∧ (s ((idsI s).getD i default).toNat).a.cl = false) ∧ (s ((idsI s).getD i default).toNat).a.w < (bestR s t h ((idsI s).take i)).1
        · have e : bstR s t h (bestR s t h ((idsI s).take i)) ((idsI s).getD i default) = ((s ((idsI s).getD i default).toNat).a.w, (idsI s).getD i default) := if_pos hb
          rw [e] at esu
          first
          | exact absurd hb.1.1 hB
          | exact absurd hb.1.2.1 hD
          | exact absurd hb.2 hI
          | (have h8 : (!(s ((idsI s).getD i default).toNat).a.cl) = false := hF
             rw [hb.1.2.2] at h8; cases h8)
          | exact ⟨i + 1, ⟨rfl, rfl, rfl, by rw [esu]; rfl, by rw [esu]; rfl, rfl, rfl, trivial⟩, ⟨rfl, by omega, Holds.to (by assumption)⟩, by omega⟩
        · have e : bstR s t h (bestR s t h ((idsI s).take i)) ((idsI s).getD i default) = bestR s t h ((idsI s).take i) := if_neg hb
          rw [e] at esu
          first
          | exact ⟨i + 1, ⟨rfl, rfl, rfl, by rw [esu]; rfl, by rw [esu]; rfl, rfl, rfl, trivial⟩, ⟨rfl, by omega, Holds.to (by assumption)⟩, by omega⟩
          | exact absurd ⟨⟨hA, hC, by simpa using hE⟩, hG⟩ hb
    · refine O.guard_f rfl rfl rfl rfl ?_
      refine O.guard_f rfl rfl rfl rfl ?_
      refine O.guard_f rfl rfl rfl rfl ?_
      refine O.guard_f rfl rfl rfl rfl ?_
      refine O.ex (Ex.pick_f rfl rfl) rfl ?_
      refine O.ex (Ex.move rfl) rfl ?_
      refine O.guard_f rfl rfl rfl rfl ?_
      refine O.guard_f rfl rfl rfl rfl ?_
      refine O.guard_f rfl rfl rfl rfl ?_
      refine O.ex (Ex.pick_f rfl rfl) rfl ?_
      refine O.ex (Ex.move rfl) rfl ?_
      refine O.guard_f rfl rfl rfl rfl ?_
      refine O.guard_f rfl rfl rfl rfl ?_
      refine O.guard_f rfl rfl rfl rfl ?_
      refine O.guard_f rfl rfl rfl rfl ?_
      refine O.ex (Ex.pick_f rfl rfl) rfl ?_
      refine O.nil ?_
      refine hK10 _ _ _ ?_
      refine W.cond_f rfl ?_
      refine W.skip ?_
      refine hK8 _ _ _ ?_
      refine W.region ?_
      refine O.ex (Ex.move rfl) rfl ?_
      refine O.ex (by first | exact Ex.addI rfl rfl | exact Ex.add rfl rfl rfl) rfl ?_
      refine O.ex (Ex.assign rfl) rfl ?_
      refine O.nil ?_
      by_cases hb : ((s ((idsI s).getD i default).toNat).a.t = t ∧ (s ((idsI s).getD i default).toNat).a.h = h ∧ (s ((idsI s).getD i default).toNat).a.cl = false) ∧ (s ((idsI s).getD i default).toNat).a.w < (bestR s t h ((idsI s).take i)).1
      · have e : bstR s t h (bestR s t h ((idsI s).take i)) ((idsI s).getD i default) = ((s ((idsI s).getD i default).toNat).a.w, (idsI s).getD i default) := if_pos hb
        rw [e] at esu
        first
        | exact absurd hb.1.1 hB
        | exact absurd hb.1.2.1 hD
        | exact absurd hb.2 hI
        | (have h8 : (!(s ((idsI s).getD i default).toNat).a.cl) = false := hF
           rw [hb.1.2.2] at h8; cases h8)
        | exact ⟨i + 1, ⟨rfl, rfl, rfl, by rw [esu]; rfl, by rw [esu]; rfl, rfl, rfl, trivial⟩, ⟨rfl, by omega, Holds.to (by assumption)⟩, by omega⟩
      · have e : bstR s t h (bestR s t h ((idsI s).take i)) ((idsI s).getD i default) = bestR s t h ((idsI s).take i) := if_neg hb
        rw [e] at esu
        first
        | exact ⟨i + 1, ⟨rfl, rfl, rfl, by rw [esu]; rfl, by rw [esu]; rfl, rfl, rfl, trivial⟩, ⟨rfl, by omega, Holds.to (by assumption)⟩, by omega⟩
        | exact absurd ⟨⟨hA, hC, by simpa using hE⟩, hG⟩ hb
  · refine W.exit ?_
    refine hK4 _ _ _ ?_
    refine W.seq (fun K12 hK12 => ?_)
    refine W.region ?_
    refine O.ex (Ex.move rfl) rfl ?_
    refine O.ex (Ex.move rfl) rfl ?_
    refine O.ex (Ex.assign rfl) rfl ?_
    refine O.ex (Ex.assign rfl) rfl ?_
    refine O.nil ?_
    refine hK12 _ _ _ ?_
    refine W.ret ?_
    try dsimp only [thenQ, blockQ, retQ]
    first | refine ⟨_, ⟨_, _, rfl, rfl, _, _, rfl, rfl, rfl⟩, ?_⟩ | (refine retD_mark ?_; intro w H; refine ⟨_, ⟨_, _, rfl, rfl, _, _, rfl, rfl, rfl⟩, ?_⟩) | (refine retD_mark2 ?_; intro w H; refine ⟨_, ⟨_, _, rfl, rfl, _, _, rfl, rfl, rfl⟩, ?_⟩)
    obtain rfl : i = (idsI s).length := by omega
    rw [← bestR_all, List.take_length]
    exact ⟨rfl, Holds.to (by assumption)⟩
end Go.Proofs.Ytblapiiinbppiaa
