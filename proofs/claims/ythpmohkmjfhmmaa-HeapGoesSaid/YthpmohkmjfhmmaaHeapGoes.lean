import Derived.Test.YthpmohkmjfhmmaaHeapPlays
import Derived.Test.YthpmohkmjfhmmaaRrInF
namespace Go.Proofs.Ythpmohkmjfhmmaa
open Go.Rr Go Hp
set_option linter.unusedVariables false
theorem itS_len (s : List (Option Int)) : ∀ j, (itS s j).length = s.length
  | 0 => rfl
  | j + 1 => by unfold itS; rw [popL_len, itS_len s j]
theorem itS_cnt (s : List (Option Int)) : ∀ j, j ≤ lenS s → lenS (itS s j) + j = lenS s
  | 0, _ => rfl
  | j + 1, h => by
    have ih := itS_cnt s j (by omega)
    have hok : pkO RI (itS s j) = true := by
      cases e : pkO RI (itS s j) with
      | true => rfl
      | false => have := (lenS_zero soI).1 e; omega
    have := lenS_pop soI hok
    show lenS (popL RI (itS s j)) + (j + 1) = lenS s
    omega
set_option maxHeartbeats 2000000 in
theorem heapGoes_ct {w0 : World} {n q : Int} {sv : Value} {sc : List ActH} (hn : (Lit.int .u8 n).wf = true) (hs : SlIn w0 3 ActH.enc sv sc) (hl : sc.length ≤ 9223372036854775807) (hq : (Lit.int .u8 q).wf = true) :
    CT Try.prog 12 [.int .u8 n, sv, .int .u8 q] w0 fun u w' => u = .bool true ∧ RowKit.Below w0.heap.size w0 w' := by
  have H := Holds.base_refl w0
  obtain ⟨n0, n1⟩ := bounds_u8 hn
  obtain ⟨q0, q1⟩ := bounds_u8 hq
  refine CT.enter (N := 118) Try.func12 rfl rfl rfl rfl ?_
  refine W.seq (fun K0 hK0 => ?_)
  refine W.region ?_
  refine O.boxP rfl (fun b5 w H => ?_)
  refine O.allocP Try.zeroValue4 (fun b6 w H => ?_)
  refine O.nil ?_
  refine hK0 _ _ _ ?_
  refine W.seq (fun K1 hK1 => ?_)
  refine W.seq (fun K2 hK2 => ?_)
  refine W.region ?_
  refine O.callF Try.call26 rfl rfl (CT.mono (awake04_ct (by assumption)) ?_)
  rintro _ w ⟨rfl, H⟩
  refine O.ex (by first | exact Ex.notD rfl | exact Ex.not rfl) rfl ?_
  refine O.nil ?_
  refine hK2 _ _ _ ?_
  refine W.known_f rfl (by first | rfl | decide | (rw [hok]; rfl) | exact decide_eq_false (fun hh => hh rfl) | exact decide_eq_true rfl | exact decide_eq_true hfin) ?_
  refine W.skip ?_
  refine hK1 _ _ _ ?_
  refine W.seq (fun K3 hK3 => ?_)
  refine W.region ?_
  refine O.ex (Ex.move rfl) rfl ?_
  refine O.ex (by first | exact Ex.convToI Try.runUnderlying5 Try.runUnderlying3 rfl | exact Ex.convW Try.runUnderlying5 Try.runUnderlying3 rfl) rfl ?_
  refine O.ex (by first | exact Ex.remI rfl rfl | exact Ex.rem rfl rfl (by omega) rfl) rfl ?_
  obtain ⟨k, hk⟩ : ∃ k : Nat, n % 65 = k := ⟨(n % 65).toNat, by omega⟩
  have hk64 : k ≤ 64 := by omega
  rw [hk]
  refine O.ex (Ex.assign rfl) rfl ?_
  refine O.nil ?_
  refine hK3 _ _ _ ?_
  refine W.seq (fun K4 hK4 => ?_)
  refine W.region ?_
  refine O.ex (Ex.move rfl) rfl ?_
  refine O.callF Try.call27 rfl rfl (CT.mono (newIH_ct (n := (k : Int)) (Holds.to (by assumption))) ?_)
  rintro _ w (⟨hx2, -⟩ | ⟨-, h, rfl, H⟩)
  · exact absurd (by omega) hx2
  refine O.ex (Ex.move rfl) rfl ?_
  refine O.ex (Ex.extract rfl rfl) rfl ?_
  refine O.ex (Ex.extract rfl rfl) rfl ?_
  refine O.ex (Ex.assign rfl) rfl ?_
  refine O.ex (Ex.assign rfl) rfl ?_
  refine O.nil ?_
  refine hK4 _ _ _ ?_
  refine W.seq (fun K5 hK5 => ?_)
  refine W.seq (fun K6 hK6 => ?_)
  refine W.region ?_
  refine O.ex (Ex.move rfl) rfl ?_
  refine O.ex (Ex.nilEq Try.runUnderlying42 rfl rfl) rfl ?_
  refine O.nil ?_
  refine hK6 _ _ _ ?_
  refine W.known_f rfl (by first | rfl | decide | (rw [hok]; rfl) | exact decide_eq_false (fun hh => hh rfl) | exact decide_eq_true rfl | exact decide_eq_true hfin) ?_
  refine W.skip ?_
  refine hK5 _ _ _ ?_
  refine W.seq (fun K7 hK7 => ?_)
  refine W.region ?_
  refine O.ex (Ex.move rfl) rfl ?_
  refine O.callF Try.call28 rfl rfl (CT.mono (rfNew_ct (n := (k : Int)) (by omega) (by omega) (Holds.to (by assumption))) ?_)
  rintro _ w ⟨r, rfl, H⟩
  refine O.allocP Try.zeroValue45 (fun b10 w H => ?_)
  first | refine O.storeP Try.sizeOf45 rfl rfl (fun w H => ?_) | refine O.storeR Try.sizeOf45 rfl rfl (fun w H => ?_)
  refine O.nil ?_
  refine hK7 _ _ _ ?_
  refine W.seq (fun K8 hK8 => ?_)
  refine W.seq (fun K9 hK9 => ?_)
  refine W.region ?_
  refine O.ex (Ex.assign rfl) rfl ?_
  refine O.nil ?_
  refine hK9 _ _ _ ?_
  refine W.block ?_
  have hln : (List.replicate ((k : Nat) : Int).toNat (none : Option Int)).length ≤ 64 := by rw [List.length_replicate]; omega
  refine W.loop (σ := Nat × List (Option Int)) (fun z => [(1, sv), (5, .pointer (some ⟨b5, 0, none⟩)), (6, .pointer (some ⟨b6, 0, none⟩)), (8, .pointer (some ⟨h, 0, none⟩)), (10, .pointer (some ⟨b10, 0, none⟩)), (11, .int .i64 (z.1 : Int))]) (fun z ds w => ds = [] ∧ z.2.length ≤ 64 ∧ Holds w [HqI h z.2, Rf r z.2, pt b10 (.cells #[.pointer (some ⟨r, 0, none⟩)] 45 (0, 0)), pt b5 (.cells #[.int .u8 q] 5 (0, 0)), pt b6 (.cells #[.bool false] 4 (0, 0)), base w0]) (fun z => sc.length - z.1) (0, List.replicate ((k : Nat) : Int).toNat none) ⟨rfl, rfl, rfl, rfl, rfl, rfl, trivial⟩ ⟨rfl, hln, Holds.to (by assumption)⟩ ?_
  clear H hln
  rintro ⟨i, s⟩ _ w ⟨rfl, hls, H⟩
  dsimp only at hls H ⊢
  refine W.seq (fun K10 hK10 => ?_)
  refine W.seq (fun K11 hK11 => ?_)
  refine W.region ?_
  refine O.ex (Ex.move rfl) rfl ?_
  refine O.ex (Ex.move rfl) rfl ?_
  refine O.ex (by first | exact Ex.lenN Try.runUnderlying63 rfl | exact Ex.lenIn Try.runUnderlying63 rfl | exact Ex.lenL Try.runUnderlying63 rfl | exact Ex.len rfl Try.runUnderlying63 rfl) rfl ?_
  refine O.ex (Ex.lss rfl rfl) rfl ?_
  refine O.ex (Ex.move rfl) rfl ?_
  first | refine O.split_p (t := 37) rfl (fun hlt => ?_) (fun hge => ?_) | refine O.split (t := 37) rfl (fun hlt => ?_) (fun hge => ?_)
  · refine O.guard_t rfl rfl ?_
    refine O.ex (Ex.move rfl) rfl ?_
    refine O.guard_t rfl rfl ?_
    refine O.ex (Ex.lss rfl rfl) rfl ?_
    refine O.ex (Ex.pick_t rfl rfl) rfl ?_
    refine O.nil ?_
    refine hK11 _ _ _ ?_
    first | refine W.cond_p rfl (fun h200 => ?_) (fun h200' => ?_) | refine W.cond_b rfl (fun h200 => ?_) (fun h200' => ?_)
    · refine W.skip ?_
      refine hK10 _ _ _ ?_
      refine W.seq (fun K12 hK12 => ?_)
      refine W.block ?_
      refine W.seq (fun K13 hK13 => ?_)
      have hi0 : (0 : Int) ≤ (i : Int) := by omega
      have hi1 : (i : Int) < (sc.length : Int) := hlt
      have hi2 : ((i : Nat) : Int).toNat < sc.length := by omega
      refine W.drawTo (base w0 :: []) (.take 0 (.take 1 (.take 2 (.take 3 (.take 4 (.take 5 (.take 6 (.take 7 (.take 8 (.take 9 (.take 10 (.one 11 .nil)))))))))))) (mixed) (fun _ _ _ _ h => h) (by assumption) PP.auto (by decide +kernel) (fun w H => ?_)
      refine OQ.ex rfl (fun w H => (Ex.move rfl)) rfl ?_
      refine OQ.ex rfl (fun w H => (Ex.move rfl)) rfl ?_
      refine OQ.ex rfl (fun w H => (Ex.move rfl)) rfl ?_
      refine OQ.ex rfl (fun w H => (by first | exact Ex.idxIn Try.runUnderlying63 Try.sizeOf65 rfl rfl | exact Ex.idxN Try.runUnderlying63 Try.sizeOf65 rfl rfl | exact Ex.idxSN Try.runUnderlying63 Try.sizeOf65 rfl rfl | exact Ex.idx Try.runUnderlying63 Try.sizeOf65 rfl rfl (by omega) (by omega))) rfl ?_
      refine OQ.ex rfl (fun w H => (by first | exact Ex.field0 fld65_1 rfl | exact Ex.field fld65_1 rfl | exact Ex.fieldS fld65_1 rfl | exact Ex.fieldIn fld65_1 rfl)) rfl ?_
      refine OQ.ex rfl (fun w H => (by first | exact Ex.loadInF Try.isAgg3 rfl (Holds.to (by assumption)) | exact Ex.loadP Try.isAgg3 rfl | exact Ex.loadIn1 Try.isAgg3 rfl (Holds.to (by assumption)) | exact Ex.loadR Try.isAgg3 rfl)) rfl ?_
      refine OQ.ex rfl (fun w H => (Ex.move rfl)) rfl ?_
      refine OQ.ex rfl (fun w H => (Ex.move rfl)) rfl ?_
      refine OQ.ex rfl (fun w H => (by first | exact Ex.idxIn Try.runUnderlying63 Try.sizeOf65 rfl rfl | exact Ex.idxN Try.runUnderlying63 Try.sizeOf65 rfl rfl | exact Ex.idxSN Try.runUnderlying63 Try.sizeOf65 rfl rfl | exact Ex.idx Try.runUnderlying63 Try.sizeOf65 rfl rfl (by omega) (by omega))) rfl ?_
      refine OQ.ex rfl (fun w H => (by first | exact Ex.field0 fld65_2 rfl | exact Ex.field fld65_2 rfl | exact Ex.fieldS fld65_2 rfl | exact Ex.fieldIn fld65_2 rfl)) rfl ?_
      refine OQ.ex rfl (fun w H => (by first | exact Ex.loadInF Try.isAgg3 rfl (Holds.to (by assumption)) | exact Ex.loadP Try.isAgg3 rfl | exact Ex.loadIn1 Try.isAgg3 rfl (Holds.to (by assumption)) | exact Ex.loadR Try.isAgg3 rfl)) rfl ?_
      refine OQ.last rfl (by decide +kernel) ?_
      refine O.callF Try.call29 rfl rfl (CT.mono (putIH_ct (s := s) (Holds.to (by assumption))) ?_)
      rintro _ w ⟨-, H⟩
      refine O.nil ?_
      refine hK13 _ _ _ ?_
      refine W.drawTo (pt b10 _ :: base w0 :: []) (.take 0 (.take 1 (.take 2 (.take 3 (.take 4 (.take 5 (.take 6 (.take 7 (.take 8 (.take 9 (.take 10 (.one 11 .nil)))))))))))) (mixed) (fun _ _ _ _ h => h) (by assumption) PP.auto (by decide +kernel) (fun w H => ?_)
      refine OQ.ex rfl (fun w H => (by first | exact Ex.loadP Try.isAgg45 rfl | exact Ex.loadR Try.isAgg45 rfl | exact Ex.loadInF Try.isAgg45 rfl (Holds.to (by assumption)) | exact Ex.loadIn1 Try.isAgg45 rfl (Holds.to (by assumption)))) rfl ?_
      refine OQ.ex rfl (fun w H => (Ex.move rfl)) rfl ?_
      refine OQ.ex rfl (fun w H => (Ex.move rfl)) rfl ?_
      refine OQ.ex rfl (fun w H => (by first | exact Ex.idxIn Try.runUnderlying63 Try.sizeOf65 rfl rfl | exact Ex.idxN Try.runUnderlying63 Try.sizeOf65 rfl rfl | exact Ex.idxSN Try.runUnderlying63 Try.sizeOf65 rfl rfl | exact Ex.idx Try.runUnderlying63 Try.sizeOf65 rfl rfl (by omega) (by omega))) rfl ?_
      refine OQ.ex rfl (fun w H => (by first | exact Ex.field0 fld65_1 rfl | exact Ex.field fld65_1 rfl | exact Ex.fieldS fld65_1 rfl | exact Ex.fieldIn fld65_1 rfl)) rfl ?_
      refine OQ.ex rfl (fun w H => (by first | exact Ex.loadInF Try.isAgg3 rfl (Holds.to (by assumption)) | exact Ex.loadP Try.isAgg3 rfl | exact Ex.loadIn1 Try.isAgg3 rfl (Holds.to (by assumption)) | exact Ex.loadR Try.isAgg3 rfl)) rfl ?_
      refine OQ.ex rfl (fun w H => (Ex.move rfl)) rfl ?_
      refine OQ.ex rfl (fun w H => (Ex.move rfl)) rfl ?_
      refine OQ.ex rfl (fun w H => (by first | exact Ex.idxIn Try.runUnderlying63 Try.sizeOf65 rfl rfl | exact Ex.idxN Try.runUnderlying63 Try.sizeOf65 rfl rfl | exact Ex.idxSN Try.runUnderlying63 Try.sizeOf65 rfl rfl | exact Ex.idx Try.runUnderlying63 Try.sizeOf65 rfl rfl (by omega) (by omega))) rfl ?_
      refine OQ.ex rfl (fun w H => (by first | exact Ex.field0 fld65_2 rfl | exact Ex.field fld65_2 rfl | exact Ex.fieldS fld65_2 rfl | exact Ex.fieldIn fld65_2 rfl)) rfl ?_
      refine OQ.ex rfl (fun w H => (by first | exact Ex.loadInF Try.isAgg3 rfl (Holds.to (by assumption)) | exact Ex.loadP Try.isAgg3 rfl | exact Ex.loadIn1 Try.isAgg3 rfl (Holds.to (by assumption)) | exact Ex.loadR Try.isAgg3 rfl)) rfl ?_
      refine OQ.last rfl (by decide +kernel) ?_
      refine O.callF Try.call30 rfl rfl (CT.mono (rfPut_ct (s := s) (Holds.to (by assumption))) ?_)
      rintro _ w ⟨-, H⟩
      obtain ⟨s2, hs2, hsd⟩ : ∃ s2 : List (Option Int), s2.length ≤ 64 ∧ putL RI s (sc.getD ((i : Nat) : Int).toNat default).f_Thing (sc.getD ((i : Nat) : Int).toNat default).f_P = s2 := ⟨_, by rw [putL_len]; exact hls, rfl⟩
      rw [hsd] at H
      refine O.nil ?_
      refine hK12 _ _ _ ?_
      refine W.region ?_
      refine O.ex (Ex.move rfl) rfl ?_
      refine O.ex (by first | exact Ex.addI rfl rfl | exact Ex.add rfl rfl rfl) rfl ?_
      refine O.ex (Ex.assign rfl) rfl ?_
      refine O.nil ?_
      exact ⟨(i + 1, s2), ⟨rfl, rfl, rfl, rfl, rfl, rfl, trivial⟩, ⟨rfl, hs2, Holds.to (by assumption)⟩, by dsimp only; omega⟩
    · refine W.exit ?_
      refine hK8 _ _ _ ?_
      refine W.seq (fun K14 hK14 => ?_)
      refine W.region ?_
      refine O.ex (by first | exact Ex.loadP Try.isAgg45 rfl | exact Ex.loadR Try.isAgg45 rfl | exact Ex.loadInF Try.isAgg45 rfl (Holds.to (by assumption)) | exact Ex.loadIn1 Try.isAgg45 rfl (Holds.to (by assumption))) rfl ?_
      refine O.callF Try.call42 rfl rfl (CT.mono (rfLen_ct hls (Holds.to (by assumption))) ?_)
      rintro _ w ⟨rfl, H⟩
      refine O.ex (Ex.assign rfl) rfl ?_
      refine O.nil ?_
      refine hK14 _ _ _ ?_
      refine W.seq (fun K15 hK15 => ?_)
      refine W.region ?_
      refine O.allocP Try.zeroValue3 (fun b13 w H => ?_)
      first | refine O.storeP Try.sizeOf3 rfl rfl (fun w H => ?_) | refine O.storeR Try.sizeOf3 rfl rfl (fun w H => ?_)
      refine O.nil ?_
      refine hK15 _ _ _ ?_
      refine W.seq (fun K16 hK16 => ?_)
      refine W.seq (fun K17 hK17 => ?_)
      refine W.region ?_
      refine O.ex (Ex.move rfl) rfl ?_
      refine O.callF Try.call43 rfl rfl (CT.mono (allIH_ct (Holds.to (by assumption))) ?_)
      rintro _ w ⟨c, rfl, H⟩
      refine O.nil ?_
      refine hK17 _ _ _ ?_
      refine W.block ?_
      refine W.rangeFunc rfl Try.call56 H ?_
      rintro LR kk D w hLR H
      refine CT.mono (all1IH_ct (c := c) (h := h) (s := s) (J := fun j => [LR .ready none, dblk D, Rf r (itS s j), pt b13 (.cells #[.int .i64 (j : Int)] 3 (0, 0)), pt b10 (.cells #[.pointer (some ⟨r, 0, none⟩)] 45 (0, 0)), pt b5 (.cells #[.int .u8 q] 5 (0, 0)), pt b6 (.cells #[.bool false] 4 (0, 0)), base w0]) (φ := fun j => j ≤ lenS s ∧ (j = 0 ∨ (j : Int) < q))
        (S := fun w' => ∃ kk : Int, (kk = max q 1 ∧ kk ≤ lenS s) ∧ Holds w' [capH c h, HqI h s, LR .done (some (.exit 2)), dblk D, pt b13 (.cells #[.int .i64 kk] 3 (0, 0)), pt b10 (.cells #[.pointer (some ⟨r, 0, none⟩)] 45 (0, 0)), pt b5 (.cells #[.int .u8 q] 5 (0, 0)), pt b6 (.cells #[.bool false] 4 (0, 0)), base w0]) (Holds.to (by assumption)) ⟨by omega, .inl rfl⟩ (fun w h => Holds.to h.choose_spec.2) ?_) ?_
      · intro j d w hok hφ H
        have hjc := itS_cnt s j hφ.1
        have hpc := lenS_pop soI hok
        have hil : (itS s j).length ≤ 64 := by rw [itS_len]; exact hls
        have hjl : j < lenS s := by omega
        have hll : lenS s ≤ 64 := Nat.le_trans (List.length_filter_le _ _) hls
        refine VT.round hLR (Holds.to (by assumption)) rfl rfl ?_
        refine W.seq (fun K18 hK18 => ?_)
        refine W.region ?_
        refine O.ex (Ex.assign rfl) rfl ?_
        refine O.nil ?_
        refine hK18 _ _ _ ?_
        refine W.region ?_
        refine O.ex (Ex.assign rfl) rfl ?_
        refine O.nil ?_
        refine ⟨_, Holds.to (by assumption), fun w H => ?_⟩
        refine W.block ?_
        refine W.seq (fun K19 hK19 => ?_)
        refine W.region ?_
        refine O.ex (by first | exact Ex.loadP Try.isAgg45 rfl | exact Ex.loadR Try.isAgg45 rfl | exact Ex.loadInF Try.isAgg45 rfl (Holds.to (by assumption)) | exact Ex.loadIn1 Try.isAgg45 rfl (Holds.to (by assumption))) rfl ?_
        refine O.callF Try.call38 rfl rfl (CT.mono (rfPop_ct (s := itS s j) hil (Holds.to (by assumption))) ?_)
        rintro _ w ⟨rfl, H⟩
        refine O.ex (Ex.move rfl) rfl ?_
        refine O.ex (Ex.extract rfl rfl) rfl ?_
        refine O.ex (Ex.extract rfl rfl) rfl ?_
        refine O.ex (Ex.extract rfl rfl) rfl ?_
        refine O.ex (Ex.assign rfl) rfl ?_
        refine O.ex (Ex.assign rfl) rfl ?_
        refine O.ex (Ex.assign rfl) rfl ?_
        refine O.nil ?_
        refine hK19 _ _ _ ?_
        refine W.seq (fun K20 hK20 => ?_)
        refine W.seq (fun K21 hK21 => ?_)
        refine W.region ?_
        refine O.ex (Ex.move rfl) rfl ?_
        refine O.ex (by first | exact Ex.notD rfl | exact Ex.not rfl) rfl ?_
        refine O.ex (Ex.move rfl) rfl ?_
        refine O.known (t := 81) (c := false) rfl (by first | rfl | decide | (rw [hok]; rfl) | exact decide_eq_false (fun hh => hh rfl) | exact decide_eq_true rfl | exact decide_eq_true hfin) ?_
        refine O.guard_t rfl rfl ?_
        refine O.ex (Ex.move rfl) rfl ?_
        refine O.guard_t rfl rfl ?_
        refine O.ex (Ex.move rfl) rfl ?_
        refine O.guard_t rfl rfl ?_
        refine O.ex (Ex.neqI rfl rfl) rfl ?_
        refine O.ex (Ex.pick_f rfl rfl) rfl ?_
        refine O.ex (Ex.move rfl) rfl ?_
        refine O.known (t := 86) (c := false) rfl (by first | rfl | decide | (rw [hok]; rfl) | exact decide_eq_false (fun hh => hh rfl) | exact decide_eq_true rfl | exact decide_eq_true hfin) ?_
        refine O.guard_t rfl rfl ?_
        refine O.ex (Ex.move rfl) rfl ?_
        refine O.guard_t rfl rfl ?_
        refine O.ex (Ex.move rfl) rfl ?_
        refine O.guard_t rfl rfl ?_
        refine O.ex (Ex.neqI rfl rfl) rfl ?_
        refine O.ex (Ex.pick_f rfl rfl) rfl ?_
        refine O.nil ?_
        refine hK21 _ _ _ ?_
        refine W.known_f rfl (by first | rfl | decide | (rw [hok]; rfl) | exact decide_eq_false (fun hh => hh rfl) | exact decide_eq_true rfl | exact decide_eq_true hfin) ?_
        refine W.skip ?_
        refine hK20 _ _ _ ?_
        refine W.seq (fun K22 hK22 => ?_)
        refine W.region ?_
        refine O.ex (by first | exact Ex.loadP Try.isAgg3 rfl | exact Ex.loadR Try.isAgg3 rfl | exact Ex.loadInF Try.isAgg3 rfl (Holds.to (by assumption)) | exact Ex.loadIn1 Try.isAgg3 rfl (Holds.to (by assumption))) rfl ?_
        refine O.ex (by first | exact Ex.addI rfl rfl | exact Ex.add rfl rfl rfl) rfl ?_
        first | refine O.storeP Try.sizeOf3 rfl rfl (fun w H => ?_) | refine O.storeR Try.sizeOf3 rfl rfl (fun w H => ?_)
        refine O.nil ?_
        refine hK22 _ _ _ ?_
        refine W.seq (fun K23 hK23 => ?_)
        refine W.region ?_
        refine O.ex (by first | exact Ex.loadP Try.isAgg3 rfl | exact Ex.loadR Try.isAgg3 rfl | exact Ex.loadInF Try.isAgg3 rfl (Holds.to (by assumption)) | exact Ex.loadIn1 Try.isAgg3 rfl (Holds.to (by assumption))) rfl ?_
        refine O.ex (by first | exact Ex.loadP Try.isAgg5 rfl | exact Ex.loadR Try.isAgg5 rfl | exact Ex.loadInF Try.isAgg5 rfl (Holds.to (by assumption)) | exact Ex.loadIn1 Try.isAgg5 rfl (Holds.to (by assumption))) rfl ?_
        refine O.ex (by first | exact Ex.convToI Try.runUnderlying5 Try.runUnderlying3 rfl | exact Ex.convW Try.runUnderlying5 Try.runUnderlying3 rfl) rfl ?_
        refine O.ex (Ex.geq rfl rfl) rfl ?_
        refine O.nil ?_
        refine hK23 _ _ _ ?_
        first | refine W.cond_p rfl (fun h96 => ?_) (fun h96 => ?_) | refine W.cond_b rfl (fun h96 => ?_) (fun h96 => ?_)
        · refine W.exit ?_
          exact ⟨_, Holds.to (by assumption), fun w H => .inr ⟨rfl, (j : Int) + 1, ⟨by omega, by omega⟩, Holds.to (by assumption)⟩⟩
        · refine W.skip ?_
          exact ⟨_, Holds.to (by assumption), fun w H => .inl ⟨rfl, ⟨by omega, .inr (by omega)⟩, Holds.to (by assumption)⟩⟩
      rintro _ w (⟨j, hφ, hno, H⟩ | ⟨kk, ⟨hk1, hk2⟩, H⟩)
      all_goals refine rangeEnd (Holds.to (by assumption)) (by nofun) (fun w H => ?_)
      · skip
        refine hK16 _ _ _ ?_
        refine W.seq (fun K24 hK24 => ?_)
        refine W.region ?_
        first
        | have hfin : kk = min ((lenS s : Nat) : Int) (max q 1) := by omega
        | (have hz := (lenS_zero soI).1 hno
           have hc := itS_cnt s j hφ.1
           have hfin : (j : Int) = min ((lenS s : Nat) : Int) (max q 1) := by omega)
        refine O.ex (Ex.move rfl) rfl ?_
        refine O.callF Try.call37 rfl rfl (CT.mono (lenIH_ct (Holds.to (by assumption))) ?_)
        rintro _ w ⟨rfl, H⟩
        refine O.ex (Ex.move rfl) rfl ?_
        refine O.ex (Ex.eqlI rfl rfl) rfl ?_
        refine O.ex (Ex.move rfl) rfl ?_
        refine O.known (t := 101) (c := true) rfl (by first | rfl | decide | (rw [hok]; rfl) | exact decide_eq_false (fun hh => hh rfl) | exact decide_eq_true rfl | exact decide_eq_true hfin) ?_
        refine O.guard_t rfl rfl ?_
        refine O.ex (by first | exact Ex.loadP Try.isAgg3 rfl | exact Ex.loadR Try.isAgg3 rfl | exact Ex.loadInF Try.isAgg3 rfl (Holds.to (by assumption)) | exact Ex.loadIn1 Try.isAgg3 rfl (Holds.to (by assumption))) rfl ?_
        refine O.guard_t rfl rfl ?_
        refine O.ex (Ex.move rfl) rfl ?_
        refine O.guard_t rfl rfl ?_
        refine O.ex (by first | exact Ex.loadP Try.isAgg5 rfl | exact Ex.loadR Try.isAgg5 rfl | exact Ex.loadInF Try.isAgg5 rfl (Holds.to (by assumption)) | exact Ex.loadIn1 Try.isAgg5 rfl (Holds.to (by assumption))) rfl ?_
        refine O.guard_t rfl rfl ?_
        refine O.ex (by first | exact Ex.convToI Try.runUnderlying5 Try.runUnderlying3 rfl | exact Ex.convW Try.runUnderlying5 Try.runUnderlying3 rfl) rfl ?_
        refine O.guard_t rfl rfl ?_
        refine O.ex (Ex.maxI rfl rfl) rfl ?_
        refine O.guard_t rfl rfl ?_
        refine O.ex (Ex.minI rfl rfl) rfl ?_
        refine O.guard_t rfl rfl ?_
        refine O.ex (Ex.eqlI rfl rfl) rfl ?_
        refine O.guard_t rfl rfl ?_
        refine O.ex (Ex.move rfl) rfl ?_
        refine O.known (t := 109) (c := true) rfl (by first | rfl | decide | (rw [hok]; rfl) | exact decide_eq_false (fun hh => hh rfl) | exact decide_eq_true rfl | exact decide_eq_true hfin) ?_
        refine O.guard_f rfl rfl rfl rfl ?_
        refine O.guard_f rfl rfl rfl rfl ?_
        refine O.guard_f rfl rfl rfl rfl ?_
        refine O.guard_u rfl rfl rfl ?_
        refine O.guard_u rfl rfl rfl ?_
        refine O.guard_f rfl rfl rfl rfl ?_
        refine O.guard_t rfl rfl ?_
        refine O.ex (Ex.pick_t rfl rfl) rfl ?_
        refine O.ex (Ex.pick_t rfl rfl) rfl ?_
        first | refine O.storeP Try.sizeOf4 rfl rfl (fun w H => ?_) | refine O.storeR Try.sizeOf4 rfl rfl (fun w H => ?_)
        refine O.nil ?_
        refine hK24 _ _ _ ?_
        refine W.ret ?_
        try dsimp only [thenQ, blockQ, retQ]
        first | refine ⟨_, ⟨_, _, _, rfl, rfl, loadVar_one Try.isAgg4, rfl⟩, ?_⟩ | (refine retD_mark ?_; intro w H; refine ⟨_, ⟨_, _, _, rfl, rfl, loadVar_one Try.isAgg4, rfl⟩, ?_⟩) | (refine retD_mark2 ?_; intro w H; refine ⟨_, ⟨_, _, _, rfl, rfl, loadVar_one Try.isAgg4, rfl⟩, ?_⟩)
        exact ⟨rfl, Holds.base_below (L := []) (Holds.to (by assumption))⟩
      · skip
        refine W.exit ?_
        refine hK16 _ _ _ ?_
        refine W.seq (fun K25 hK25 => ?_)
        refine W.region ?_
        first
        | have hfin : kk = min ((lenS s : Nat) : Int) (max q 1) := by omega
        | (have hz := (lenS_zero soI).1 hno
           have hc := itS_cnt s j hφ.1
           have hfin : (j : Int) = min ((lenS s : Nat) : Int) (max q 1) := by omega)
        refine O.ex (Ex.move rfl) rfl ?_
        refine O.callF Try.call37 rfl rfl (CT.mono (lenIH_ct (Holds.to (by assumption))) ?_)
        rintro _ w ⟨rfl, H⟩
        refine O.ex (Ex.move rfl) rfl ?_
        refine O.ex (Ex.eqlI rfl rfl) rfl ?_
        refine O.ex (Ex.move rfl) rfl ?_
        refine O.known (t := 101) (c := true) rfl (by first | rfl | decide | (rw [hok]; rfl) | exact decide_eq_false (fun hh => hh rfl) | exact decide_eq_true rfl | exact decide_eq_true hfin) ?_
        refine O.guard_t rfl rfl ?_
        refine O.ex (by first | exact Ex.loadP Try.isAgg3 rfl | exact Ex.loadR Try.isAgg3 rfl | exact Ex.loadInF Try.isAgg3 rfl (Holds.to (by assumption)) | exact Ex.loadIn1 Try.isAgg3 rfl (Holds.to (by assumption))) rfl ?_
        refine O.guard_t rfl rfl ?_
        refine O.ex (Ex.move rfl) rfl ?_
        refine O.guard_t rfl rfl ?_
        refine O.ex (by first | exact Ex.loadP Try.isAgg5 rfl | exact Ex.loadR Try.isAgg5 rfl | exact Ex.loadInF Try.isAgg5 rfl (Holds.to (by assumption)) | exact Ex.loadIn1 Try.isAgg5 rfl (Holds.to (by assumption))) rfl ?_
        refine O.guard_t rfl rfl ?_
        refine O.ex (by first | exact Ex.convToI Try.runUnderlying5 Try.runUnderlying3 rfl | exact Ex.convW Try.runUnderlying5 Try.runUnderlying3 rfl) rfl ?_
        refine O.guard_t rfl rfl ?_
        refine O.ex (Ex.maxI rfl rfl) rfl ?_
        refine O.guard_t rfl rfl ?_
        refine O.ex (Ex.minI rfl rfl) rfl ?_
        refine O.guard_t rfl rfl ?_
        refine O.ex (Ex.eqlI rfl rfl) rfl ?_
        refine O.guard_t rfl rfl ?_
        refine O.ex (Ex.move rfl) rfl ?_
        refine O.known (t := 109) (c := true) rfl (by first | rfl | decide | (rw [hok]; rfl) | exact decide_eq_false (fun hh => hh rfl) | exact decide_eq_true rfl | exact decide_eq_true hfin) ?_
        refine O.guard_f rfl rfl rfl rfl ?_
        refine O.guard_f rfl rfl rfl rfl ?_
        refine O.guard_f rfl rfl rfl rfl ?_
        refine O.guard_u rfl rfl rfl ?_
        refine O.guard_u rfl rfl rfl ?_
        refine O.guard_f rfl rfl rfl rfl ?_
        refine O.guard_t rfl rfl ?_
        refine O.ex (Ex.pick_t rfl rfl) rfl ?_
        refine O.ex (Ex.pick_t rfl rfl) rfl ?_
        first | refine O.storeP Try.sizeOf4 rfl rfl (fun w H => ?_) | refine O.storeR Try.sizeOf4 rfl rfl (fun w H => ?_)
        refine O.nil ?_
        refine hK25 _ _ _ ?_
        refine W.ret ?_
        try dsimp only [thenQ, blockQ, retQ]
        first | refine ⟨_, ⟨_, _, _, rfl, rfl, loadVar_one Try.isAgg4, rfl⟩, ?_⟩ | (refine retD_mark ?_; intro w H; refine ⟨_, ⟨_, _, _, rfl, rfl, loadVar_one Try.isAgg4, rfl⟩, ?_⟩) | (refine retD_mark2 ?_; intro w H; refine ⟨_, ⟨_, _, _, rfl, rfl, loadVar_one Try.isAgg4, rfl⟩, ?_⟩)
        exact ⟨rfl, Holds.base_below (L := []) (Holds.to (by assumption))⟩
  · refine O.guard_f rfl rfl rfl rfl ?_
    refine O.guard_f rfl rfl rfl rfl ?_
    refine O.ex (Ex.pick_f rfl rfl) rfl ?_
    refine O.nil ?_
    refine hK11 _ _ _ ?_
    refine W.cond_f rfl ?_
    refine W.exit ?_
    refine hK8 _ _ _ ?_
    refine W.seq (fun K26 hK26 => ?_)
    refine W.region ?_
    refine O.ex (by first | exact Ex.loadP Try.isAgg45 rfl | exact Ex.loadR Try.isAgg45 rfl | exact Ex.loadInF Try.isAgg45 rfl (Holds.to (by assumption)) | exact Ex.loadIn1 Try.isAgg45 rfl (Holds.to (by assumption))) rfl ?_
    refine O.callF Try.call42 rfl rfl (CT.mono (rfLen_ct hls (Holds.to (by assumption))) ?_)
    rintro _ w ⟨rfl, H⟩
    refine O.ex (Ex.assign rfl) rfl ?_
    refine O.nil ?_
    refine hK26 _ _ _ ?_
    refine W.seq (fun K27 hK27 => ?_)
    refine W.region ?_
    refine O.allocP Try.zeroValue3 (fun b13 w H => ?_)
    first | refine O.storeP Try.sizeOf3 rfl rfl (fun w H => ?_) | refine O.storeR Try.sizeOf3 rfl rfl (fun w H => ?_)
    refine O.nil ?_
    refine hK27 _ _ _ ?_
    refine W.seq (fun K28 hK28 => ?_)
    refine W.seq (fun K29 hK29 => ?_)
    refine W.region ?_
    refine O.ex (Ex.move rfl) rfl ?_
    refine O.callF Try.call43 rfl rfl (CT.mono (allIH_ct (Holds.to (by assumption))) ?_)
    rintro _ w ⟨c, rfl, H⟩
    refine O.nil ?_
    refine hK29 _ _ _ ?_
    refine W.block ?_
    refine W.rangeFunc rfl Try.call56 H ?_
    rintro LR kk D w hLR H
    refine CT.mono (all1IH_ct (c := c) (h := h) (s := s) (J := fun j => [LR .ready none, dblk D, Rf r (itS s j), pt b13 (.cells #[.int .i64 (j : Int)] 3 (0, 0)), pt b10 (.cells #[.pointer (some ⟨r, 0, none⟩)] 45 (0, 0)), pt b5 (.cells #[.int .u8 q] 5 (0, 0)), pt b6 (.cells #[.bool false] 4 (0, 0)), base w0]) (φ := fun j => j ≤ lenS s ∧ (j = 0 ∨ (j : Int) < q))
      (S := fun w' => ∃ kk : Int, (kk = max q 1 ∧ kk ≤ lenS s) ∧ Holds w' [capH c h, HqI h s, LR .done (some (.exit 2)), dblk D, pt b13 (.cells #[.int .i64 kk] 3 (0, 0)), pt b10 (.cells #[.pointer (some ⟨r, 0, none⟩)] 45 (0, 0)), pt b5 (.cells #[.int .u8 q] 5 (0, 0)), pt b6 (.cells #[.bool false] 4 (0, 0)), base w0]) (Holds.to (by assumption)) ⟨by omega, .inl rfl⟩ (fun w h => Holds.to h.choose_spec.2) ?_) ?_
    · intro j d w hok hφ H
      have hjc := itS_cnt s j hφ.1
      have hpc := lenS_pop soI hok
      have hil : (itS s j).length ≤ 64 := by rw [itS_len]; exact hls
      have hjl : j < lenS s := by omega
      have hll : lenS s ≤ 64 := Nat.le_trans (List.length_filter_le _ _) hls
      refine VT.round hLR (Holds.to (by assumption)) rfl rfl ?_
      refine W.seq (fun K30 hK30 => ?_)
      refine W.region ?_
      refine O.ex (Ex.assign rfl) rfl ?_
      refine O.nil ?_
      refine hK30 _ _ _ ?_
      refine W.region ?_
      refine O.ex (Ex.assign rfl) rfl ?_
      refine O.nil ?_
      refine ⟨_, Holds.to (by assumption), fun w H => ?_⟩
      refine W.block ?_
      refine W.seq (fun K31 hK31 => ?_)
      refine W.region ?_
      refine O.ex (by first | exact Ex.loadP Try.isAgg45 rfl | exact Ex.loadR Try.isAgg45 rfl | exact Ex.loadInF Try.isAgg45 rfl (Holds.to (by assumption)) | exact Ex.loadIn1 Try.isAgg45 rfl (Holds.to (by assumption))) rfl ?_
      refine O.callF Try.call38 rfl rfl (CT.mono (rfPop_ct (s := itS s j) hil (Holds.to (by assumption))) ?_)
      rintro _ w ⟨rfl, H⟩
      refine O.ex (Ex.move rfl) rfl ?_
      refine O.ex (Ex.extract rfl rfl) rfl ?_
      refine O.ex (Ex.extract rfl rfl) rfl ?_
      refine O.ex (Ex.extract rfl rfl) rfl ?_
      refine O.ex (Ex.assign rfl) rfl ?_
      refine O.ex (Ex.assign rfl) rfl ?_
      refine O.ex (Ex.assign rfl) rfl ?_
      refine O.nil ?_
      refine hK31 _ _ _ ?_
      refine W.seq (fun K32 hK32 => ?_)
      refine W.seq (fun K33 hK33 => ?_)
      refine W.region ?_
      refine O.ex (Ex.move rfl) rfl ?_
      refine O.ex (by first | exact Ex.notD rfl | exact Ex.not rfl) rfl ?_
      refine O.ex (Ex.move rfl) rfl ?_
      refine O.known (t := 81) (c := false) rfl (by first | rfl | decide | (rw [hok]; rfl) | exact decide_eq_false (fun hh => hh rfl) | exact decide_eq_true rfl | exact decide_eq_true hfin) ?_
      refine O.guard_t rfl rfl ?_
      refine O.ex (Ex.move rfl) rfl ?_
      refine O.guard_t rfl rfl ?_
      refine O.ex (Ex.move rfl) rfl ?_
      refine O.guard_t rfl rfl ?_
      refine O.ex (Ex.neqI rfl rfl) rfl ?_
      refine O.ex (Ex.pick_f rfl rfl) rfl ?_
      refine O.ex (Ex.move rfl) rfl ?_
      refine O.known (t := 86) (c := false) rfl (by first | rfl | decide | (rw [hok]; rfl) | exact decide_eq_false (fun hh => hh rfl) | exact decide_eq_true rfl | exact decide_eq_true hfin) ?_
      refine O.guard_t rfl rfl ?_
      refine O.ex (Ex.move rfl) rfl ?_
      refine O.guard_t rfl rfl ?_
      refine O.ex (Ex.move rfl) rfl ?_
      refine O.guard_t rfl rfl ?_
      refine O.ex (Ex.neqI rfl rfl) rfl ?_
      refine O.ex (Ex.pick_f rfl rfl) rfl ?_
      refine O.nil ?_
      refine hK33 _ _ _ ?_
      refine W.known_f rfl (by first | rfl | decide | (rw [hok]; rfl) | exact decide_eq_false (fun hh => hh rfl) | exact decide_eq_true rfl | exact decide_eq_true hfin) ?_
      refine W.skip ?_
      refine hK32 _ _ _ ?_
      refine W.seq (fun K34 hK34 => ?_)
      refine W.region ?_
      refine O.ex (by first | exact Ex.loadP Try.isAgg3 rfl | exact Ex.loadR Try.isAgg3 rfl | exact Ex.loadInF Try.isAgg3 rfl (Holds.to (by assumption)) | exact Ex.loadIn1 Try.isAgg3 rfl (Holds.to (by assumption))) rfl ?_
      refine O.ex (by first | exact Ex.addI rfl rfl | exact Ex.add rfl rfl rfl) rfl ?_
      first | refine O.storeP Try.sizeOf3 rfl rfl (fun w H => ?_) | refine O.storeR Try.sizeOf3 rfl rfl (fun w H => ?_)
      refine O.nil ?_
      refine hK34 _ _ _ ?_
      refine W.seq (fun K35 hK35 => ?_)
      refine W.region ?_
      refine O.ex (by first | exact Ex.loadP Try.isAgg3 rfl | exact Ex.loadR Try.isAgg3 rfl | exact Ex.loadInF Try.isAgg3 rfl (Holds.to (by assumption)) | exact Ex.loadIn1 Try.isAgg3 rfl (Holds.to (by assumption))) rfl ?_
      refine O.ex (by first | exact Ex.loadP Try.isAgg5 rfl | exact Ex.loadR Try.isAgg5 rfl | exact Ex.loadInF Try.isAgg5 rfl (Holds.to (by assumption)) | exact Ex.loadIn1 Try.isAgg5 rfl (Holds.to (by assumption))) rfl ?_
      refine O.ex (by first | exact Ex.convToI Try.runUnderlying5 Try.runUnderlying3 rfl | exact Ex.convW Try.runUnderlying5 Try.runUnderlying3 rfl) rfl ?_
      refine O.ex (Ex.geq rfl rfl) rfl ?_
      refine O.nil ?_
      refine hK35 _ _ _ ?_
      first | refine W.cond_p rfl (fun h96 => ?_) (fun h96 => ?_) | refine W.cond_b rfl (fun h96 => ?_) (fun h96 => ?_)
      · refine W.exit ?_
        exact ⟨_, Holds.to (by assumption), fun w H => .inr ⟨rfl, (j : Int) + 1, ⟨by omega, by omega⟩, Holds.to (by assumption)⟩⟩
      · refine W.skip ?_
        exact ⟨_, Holds.to (by assumption), fun w H => .inl ⟨rfl, ⟨by omega, .inr (by omega)⟩, Holds.to (by assumption)⟩⟩
    rintro _ w (⟨j, hφ, hno, H⟩ | ⟨kk, ⟨hk1, hk2⟩, H⟩)
    all_goals refine rangeEnd (Holds.to (by assumption)) (by nofun) (fun w H => ?_)
    · skip
      refine hK28 _ _ _ ?_
      refine W.seq (fun K36 hK36 => ?_)
      refine W.region ?_
      first
      | have hfin : kk = min ((lenS s : Nat) : Int) (max q 1) := by omega
      | (have hz := (lenS_zero soI).1 hno
         have hc := itS_cnt s j hφ.1
         have hfin : (j : Int) = min ((lenS s : Nat) : Int) (max q 1) := by omega)
      refine O.ex (Ex.move rfl) rfl ?_
      refine O.callF Try.call37 rfl rfl (CT.mono (lenIH_ct (Holds.to (by assumption))) ?_)
      rintro _ w ⟨rfl, H⟩
      refine O.ex (Ex.move rfl) rfl ?_
      refine O.ex (Ex.eqlI rfl rfl) rfl ?_
      refine O.ex (Ex.move rfl) rfl ?_
      refine O.known (t := 101) (c := true) rfl (by first | rfl | decide | (rw [hok]; rfl) | exact decide_eq_false (fun hh => hh rfl) | exact decide_eq_true rfl | exact decide_eq_true hfin) ?_
      refine O.guard_t rfl rfl ?_
      refine O.ex (by first | exact Ex.loadP Try.isAgg3 rfl | exact Ex.loadR Try.isAgg3 rfl | exact Ex.loadInF Try.isAgg3 rfl (Holds.to (by assumption)) | exact Ex.loadIn1 Try.isAgg3 rfl (Holds.to (by assumption))) rfl ?_
      refine O.guard_t rfl rfl ?_
      refine O.ex (Ex.move rfl) rfl ?_
      refine O.guard_t rfl rfl ?_
      refine O.ex (by first | exact Ex.loadP Try.isAgg5 rfl | exact Ex.loadR Try.isAgg5 rfl | exact Ex.loadInF Try.isAgg5 rfl (Holds.to (by assumption)) | exact Ex.loadIn1 Try.isAgg5 rfl (Holds.to (by assumption))) rfl ?_
      refine O.guard_t rfl rfl ?_
      refine O.ex (by first | exact Ex.convToI Try.runUnderlying5 Try.runUnderlying3 rfl | exact Ex.convW Try.runUnderlying5 Try.runUnderlying3 rfl) rfl ?_
      refine O.guard_t rfl rfl ?_
      refine O.ex (Ex.maxI rfl rfl) rfl ?_
      refine O.guard_t rfl rfl ?_
      refine O.ex (Ex.minI rfl rfl) rfl ?_
      refine O.guard_t rfl rfl ?_
      refine O.ex (Ex.eqlI rfl rfl) rfl ?_
      refine O.guard_t rfl rfl ?_
      refine O.ex (Ex.move rfl) rfl ?_
      refine O.known (t := 109) (c := true) rfl (by first | rfl | decide | (rw [hok]; rfl) | exact decide_eq_false (fun hh => hh rfl) | exact decide_eq_true rfl | exact decide_eq_true hfin) ?_
      refine O.guard_f rfl rfl rfl rfl ?_
      refine O.guard_f rfl rfl rfl rfl ?_
      refine O.guard_f rfl rfl rfl rfl ?_
      refine O.guard_u rfl rfl rfl ?_
      refine O.guard_u rfl rfl rfl ?_
      refine O.guard_f rfl rfl rfl rfl ?_
      refine O.guard_t rfl rfl ?_
      refine O.ex (Ex.pick_t rfl rfl) rfl ?_
      refine O.ex (Ex.pick_t rfl rfl) rfl ?_
      first | refine O.storeP Try.sizeOf4 rfl rfl (fun w H => ?_) | refine O.storeR Try.sizeOf4 rfl rfl (fun w H => ?_)
      refine O.nil ?_
      refine hK36 _ _ _ ?_
      refine W.ret ?_
      try dsimp only [thenQ, blockQ, retQ]
      first | refine ⟨_, ⟨_, _, _, rfl, rfl, loadVar_one Try.isAgg4, rfl⟩, ?_⟩ | (refine retD_mark ?_; intro w H; refine ⟨_, ⟨_, _, _, rfl, rfl, loadVar_one Try.isAgg4, rfl⟩, ?_⟩) | (refine retD_mark2 ?_; intro w H; refine ⟨_, ⟨_, _, _, rfl, rfl, loadVar_one Try.isAgg4, rfl⟩, ?_⟩)
      exact ⟨rfl, Holds.base_below (L := []) (Holds.to (by assumption))⟩
    · skip
      refine W.exit ?_
      refine hK28 _ _ _ ?_
      refine W.seq (fun K37 hK37 => ?_)
      refine W.region ?_
      first
      | have hfin : kk = min ((lenS s : Nat) : Int) (max q 1) := by omega
      | (have hz := (lenS_zero soI).1 hno
         have hc := itS_cnt s j hφ.1
         have hfin : (j : Int) = min ((lenS s : Nat) : Int) (max q 1) := by omega)
      refine O.ex (Ex.move rfl) rfl ?_
      refine O.callF Try.call37 rfl rfl (CT.mono (lenIH_ct (Holds.to (by assumption))) ?_)
      rintro _ w ⟨rfl, H⟩
      refine O.ex (Ex.move rfl) rfl ?_
      refine O.ex (Ex.eqlI rfl rfl) rfl ?_
      refine O.ex (Ex.move rfl) rfl ?_
      refine O.known (t := 101) (c := true) rfl (by first | rfl | decide | (rw [hok]; rfl) | exact decide_eq_false (fun hh => hh rfl) | exact decide_eq_true rfl | exact decide_eq_true hfin) ?_
      refine O.guard_t rfl rfl ?_
      refine O.ex (by first | exact Ex.loadP Try.isAgg3 rfl | exact Ex.loadR Try.isAgg3 rfl | exact Ex.loadInF Try.isAgg3 rfl (Holds.to (by assumption)) | exact Ex.loadIn1 Try.isAgg3 rfl (Holds.to (by assumption))) rfl ?_
      refine O.guard_t rfl rfl ?_
      refine O.ex (Ex.move rfl) rfl ?_
      refine O.guard_t rfl rfl ?_
      refine O.ex (by first | exact Ex.loadP Try.isAgg5 rfl | exact Ex.loadR Try.isAgg5 rfl | exact Ex.loadInF Try.isAgg5 rfl (Holds.to (by assumption)) | exact Ex.loadIn1 Try.isAgg5 rfl (Holds.to (by assumption))) rfl ?_
      refine O.guard_t rfl rfl ?_
      refine O.ex (by first | exact Ex.convToI Try.runUnderlying5 Try.runUnderlying3 rfl | exact Ex.convW Try.runUnderlying5 Try.runUnderlying3 rfl) rfl ?_
      refine O.guard_t rfl rfl ?_
      refine O.ex (Ex.maxI rfl rfl) rfl ?_
      refine O.guard_t rfl rfl ?_
      refine O.ex (Ex.minI rfl rfl) rfl ?_
      refine O.guard_t rfl rfl ?_
      refine O.ex (Ex.eqlI rfl rfl) rfl ?_
      refine O.guard_t rfl rfl ?_
      refine O.ex (Ex.move rfl) rfl ?_
      refine O.known (t := 109) (c := true) rfl (by first | rfl | decide | (rw [hok]; rfl) | exact decide_eq_false (fun hh => hh rfl) | exact decide_eq_true rfl | exact decide_eq_true hfin) ?_
      refine O.guard_f rfl rfl rfl rfl ?_
      refine O.guard_f rfl rfl rfl rfl ?_
      refine O.guard_f rfl rfl rfl rfl ?_
      refine O.guard_u rfl rfl rfl ?_
      refine O.guard_u rfl rfl rfl ?_
      refine O.guard_f rfl rfl rfl rfl ?_
      refine O.guard_t rfl rfl ?_
      refine O.ex (Ex.pick_t rfl rfl) rfl ?_
      refine O.ex (Ex.pick_t rfl rfl) rfl ?_
      first | refine O.storeP Try.sizeOf4 rfl rfl (fun w H => ?_) | refine O.storeR Try.sizeOf4 rfl rfl (fun w H => ?_)
      refine O.nil ?_
      refine hK37 _ _ _ ?_
      refine W.ret ?_
      try dsimp only [thenQ, blockQ, retQ]
      first | refine ⟨_, ⟨_, _, _, rfl, rfl, loadVar_one Try.isAgg4, rfl⟩, ?_⟩ | (refine retD_mark ?_; intro w H; refine ⟨_, ⟨_, _, _, rfl, rfl, loadVar_one Try.isAgg4, rfl⟩, ?_⟩) | (refine retD_mark2 ?_; intro w H; refine ⟨_, ⟨_, _, _, rfl, rfl, loadVar_one Try.isAgg4, rfl⟩, ?_⟩)
      exact ⟨rfl, Holds.base_below (L := []) (Holds.to (by assumption))⟩
theorem heapGoes_row {w0 : World} {n q : Int} {sv : Value} {sc : List ActH} (hn : (Lit.int .u8 n).wf = true) (hs : SlIn w0 3 ActH.enc sv sc) (ht : ∀ x ∈ sc, x.ok) (hl : sc.length ≤ maxLen) (hq : (Lit.int .u8 q).wf = true) :
    CT Try.prog 12 [.int .u8 n, sv, .int .u8 q] w0 fun u w' => u = .bool true ∧ RowKit.Below w0.heap.size w0 w' :=
  heapGoes_ct hn hs (by unfold maxLen at hl; omega) hq
end Go.Proofs.Ythpmohkmjfhmmaa
