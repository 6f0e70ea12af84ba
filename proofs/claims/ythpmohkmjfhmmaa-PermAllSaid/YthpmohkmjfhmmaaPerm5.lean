import Derived.Test.YthpmohkmjfhmmaaPerm4
--ARR
namespace Go.Proofs.Ythpmohkmjfhmmaa
open Go.Rr Go
set_option linter.unusedVariables false
theorem fac20 {n : Nat} (h : n ≤ 20) : fac n ≤ 2432902008176640000 := Nat.le_trans (fac_mono h) (by decide)
set_option maxHeartbeats 1000000 in
theorem number_ct {w : World} {v : Value} {l : List Int} {L : List HProp} (hlen : l.length ≤ 9223372036854775807) (H : Holds w (arr 3 (Value.int .i64) v l :: L)) :
    CT Try.prog 21 [v] w fun u w' => (¬ RightP l ∧ u = .tuple #[.int .u64 0, .int .i64 1] ∧ Holds w' (arr 3 (Value.int .i64) v l :: L)) ∨ (RightP l ∧ 20 < l.length ∧ u = .tuple #[.int .u64 0, .int .i64 9] ∧ Holds w' (arr 3 (Value.int .i64) v l :: L)) ∨
      (RightP l ∧ l.length ≤ 20 ∧ u = .tuple #[.int .u64 ((numN (invL l) : Nat) : Int), .int .i64 0] ∧ Holds w' (arr 3 (Value.int .i64) v l :: L)) := by
  refine CT.enter (N := 55) Try.func21 rfl rfl rfl rfl ?_
  refine W.seq (fun K0 hK0 => ?_)
  refine W.region ?_
  refine O.ex (Ex.assign rfl) rfl ?_
  refine O.ex (Ex.assign rfl) rfl ?_
  refine O.nil ?_
  refine hK0 _ _ _ ?_
  refine W.seq (fun K1 hK1 => ?_)
  refine W.region ?_
  refine O.ex (Ex.move rfl) rfl ?_
  refine O.callF Try.call14 rfl rfl (CT.mono (inverseA_ct (Holds.to (by assumption)) hlen) ?_)
  rintro _ w hh
  rcases hh with ⟨hr, x, rfl, hxo, H⟩ | ⟨hr, rfl, H⟩
  · refine O.ex (Ex.move rfl) rfl ?_
    refine O.ex (Ex.extract rfl rfl) rfl ?_
    refine O.ex (Ex.extract rfl rfl) rfl ?_
    refine O.ex (Ex.assign rfl) rfl ?_
    refine O.ex (Ex.assign rfl) rfl ?_
    refine O.nil ?_
    refine hK1 _ _ _ ?_
    refine W.seq (fun K2 hK2 => ?_)
    refine W.block ?_
    refine W.seq (fun K3 hK3 => ?_)
    refine W.region ?_
    refine O.ex (Ex.move rfl) rfl ?_
    refine O.ex (Ex.neqI rfl rfl) rfl ?_
    refine O.ex (Ex.assign rfl) rfl ?_
    refine O.nil ?_
    refine hK3 _ _ _ ?_
    refine W.known_f rfl (by first | rfl | decide) ?_
    refine W.seq (fun K4 hK4 => ?_)
    refine W.region ?_
    refine O.ex (Ex.move rfl) rfl ?_
    refine O.ex (by first | exact Ex.lenR Try.runUnderlying22 rfl | exact Ex.lenIn Try.runUnderlying22 rfl | exact Ex.lenL Try.runUnderlying22 rfl | exact Ex.len rfl Try.runUnderlying22 rfl) rfl ?_
    refine O.ex (Ex.gtr rfl rfl) rfl ?_
    refine O.ex (Ex.assign rfl) rfl ?_
    refine O.nil ?_
    refine hK4 _ _ _ ?_
    first | refine W.cond_p rfl (fun hbig => ?_) (fun hle => ?_) | refine W.cond_b rfl (fun hbig => ?_) (fun hle => ?_)
    · refine W.seq (fun K5 hK5 => ?_)
      refine W.region ?_
      refine O.ex (Ex.assign rfl) rfl ?_
      refine O.ex (Ex.assign rfl) rfl ?_
      refine O.nil ?_
      refine hK5 _ _ _ ?_
      refine W.ret ?_
      try dsimp only [thenQ, blockQ, retQ]
      first | refine ⟨_, ⟨_, _, rfl, rfl, _, _, rfl, rfl, rfl⟩, ?_⟩ | (refine retD_mark ?_; intro w H; refine ⟨_, ⟨_, _, rfl, rfl, _, _, rfl, rfl, rfl⟩, ?_⟩) | (refine retD_mark2 ?_; intro w H; refine ⟨_, ⟨_, _, rfl, rfl, _, _, rfl, rfl, rfl⟩, ?_⟩)
      first
      | exact .inl ⟨hr, rfl, Holds.to (by assumption)⟩
      | exact .inr (.inl ⟨hr, by omega, rfl, Holds.to (by assumption)⟩)
      | (obtain rfl : i = b.length := by omega
         exact .inr (.inr ⟨hr, by omega, by rw [← hb]; rfl, Holds.to (by assumption)⟩))
    · refine W.skip ?_
      refine hK2 _ _ _ ?_
      refine W.seq (fun K6 hK6 => ?_)
      refine W.region ?_
      obtain ⟨b, hb⟩ : ∃ b, b = invL l := ⟨_, rfl⟩
      have hrb : RightP b := by rw [hb]; exact invL_right hr
      have hbl : b.length = l.length := by rw [hb]; exact invL_len l
      rw [← hb] at H
      refine O.ex (Ex.move rfl) rfl ?_
      refine O.ex (by first | exact Ex.lenR Try.runUnderlying22 rfl | exact Ex.lenIn Try.runUnderlying22 rfl | exact Ex.lenL Try.runUnderlying22 rfl | exact Ex.len rfl Try.runUnderlying22 rfl) rfl ?_
      refine O.callF Try.call23 rfl rfl (CT.mono (rising_ct (n := (l.length : Int)) (Holds.to (by assumption))) ?_)
      rintro _ w ⟨hvr, H⟩
      rename_i vr
      rw [show (hl (l.length : Int)).toNat = b.length from by rw [hbl]; unfold hl; omega] at H
      refine O.ex (Ex.assign rfl) rfl ?_
      refine O.ex (Ex.assign rfl) rfl ?_
      refine O.ex (Ex.assign rfl) rfl ?_
      refine O.nil ?_
      refine hK6 _ _ _ ?_
      refine W.seq (fun K7 hK7 => ?_)
      refine W.seq (fun K8 hK8 => ?_)
      refine W.region ?_
      refine O.ex (Ex.move rfl) rfl ?_
      refine O.ex (by first | exact Ex.lenR Try.runUnderlying22 rfl | exact Ex.lenIn Try.runUnderlying22 rfl | exact Ex.lenL Try.runUnderlying22 rfl | exact Ex.len rfl Try.runUnderlying22 rfl) rfl ?_
      refine O.ex (Ex.move rfl) rfl ?_
      refine O.nil ?_
      refine hK8 _ _ _ ?_
      refine W.block ?_
      refine W.loop (σ := Nat × Value) (fun i => [(6, i.2), (7, .int .u64 ((nst b i.1).2.1 : Nat)), (8, .int .u64 ((nst b i.1).2.2 : Nat)), (28, x), (29, .int .i64 b.length), (30, .int .i64 (i.1 : Int))]) (fun i ds w => ds = [] ∧ i.1 ≤ b.length ∧ i.2.oneCell' = true ∧ Holds w (arr 3 (Value.int .i64) i.2 (nst b i.1).1 :: arr 3 (Value.int .i64) x b :: arr 3 (Value.int .i64) v l :: L)) (fun i => b.length - i.1) (0, vr) ⟨rfl, rfl, rfl, rfl, rfl, rfl, trivial⟩ ⟨rfl, by simp, hvr, Holds.to (by assumption)⟩ ?_
      clear H
      rintro ⟨i, va⟩ _ w ⟨rfl, hi, hva, H⟩
      dsimp only at hi hva H
      dsimp only
      refine W.seq (fun K9 hK9 => ?_)
      refine W.region ?_
      refine O.ex (Ex.lss rfl rfl) rfl ?_
      refine O.nil ?_
      refine hK9 _ _ _ ?_
      refine W.seq (fun K10 hK10 => ?_)
      first | refine W.cond_p rfl (fun hlt => ?_) (fun hge => ?_) | refine W.cond_b rfl (fun hlt => ?_) (fun hge => ?_)
      · refine W.skip ?_
        refine hK10 _ _ _ ?_
        refine W.seq (fun K11 hK11 => ?_)
        refine W.block ?_
        refine W.seq (fun K12 hK12 => ?_)
        refine W.region ?_
        have hib : i < b.length := by omega
        obtain ⟨un, nm⟩ := nst_unit hrb i hi
        obtain ⟨un2, nm2⟩ := nst_unit hrb (i + 1) hib
        have ule := nst_unit_le hrb (i + 1) hib
        have hll := (nst_left hrb i hi).2.2
        have hmem := nst_mem hrb i hib
        have hix := List.idxOf_lt_length_of_mem hmem
        have hf := fac20 (n := b.length) (by omega)
        have e1 : (nst b (i + 1)).2.1 = (nst b i).2.1 * (nst b i).1.length := rfl
        have e2 : (nst b (i + 1)).2.2 = (nst b i).2.2 + (nst b i).2.1 * (nst b i).1.idxOf (b.getD i default) := rfl
        obtain ⟨k, hk⟩ : ∃ k, k = (nst b i).1.idxOf (b.getD i default) := ⟨_, rfl⟩
        obtain ⟨U, hU⟩ : ∃ U, U = (nst b i).2.1 := ⟨_, rfl⟩
        obtain ⟨M, hM⟩ : ∃ M, M = (nst b i).2.2 := ⟨_, rfl⟩
        obtain ⟨len, hlenn⟩ : ∃ len, len = (nst b i).1.length := ⟨_, rfl⟩
        rw [← hk] at e2 hix
        rw [← hU] at e1 e2
        rw [← hM] at e2
        rw [← hlenn] at e1 hix hll
        have hmul : U * k ≤ U * len := Nat.mul_le_mul_left _ (by omega)
        rw [← hU, ← hM]
        obtain ⟨p, hp⟩ : ∃ p, p = U * k := ⟨_, rfl⟩
        obtain ⟨q, hq⟩ : ∃ q, q = U * len := ⟨_, rfl⟩
        rw [← hp, ← hq] at hmul
        rw [← hq] at e1
        rw [← hp] at e2
        refine O.ex (by first | exact Ex.idxR Try.runUnderlying22 Try.sizeOf3 rfl rfl | exact Ex.idxIn Try.runUnderlying22 Try.sizeOf3 rfl rfl | exact Ex.idxS Try.runUnderlying22 Try.sizeOf3 rfl rfl | exact Ex.idx Try.runUnderlying22 Try.sizeOf3 rfl rfl (by omega) (by omega)) rfl ?_
        refine O.ex (by first | exact Ex.loadR Try.isAgg3 rfl | exact Ex.loadIn1 Try.isAgg3 rfl (Holds.to (by assumption)) | exact Ex.loadP Try.isAgg3 rfl | exact Ex.loadMh Try.isAgg3 rfl | exact Ex.loadM Try.isAgg3 rfl | exact Ex.loadVc Try.isAgg3 rfl | exact Ex.loadQ Try.isAgg3 rfl) rfl ?_
        refine O.ex (Ex.assign rfl) rfl ?_
        refine O.nil ?_
        refine hK12 _ _ _ ?_
        refine W.seq (fun K13 hK13 => ?_)
        refine W.region ?_
        refine O.ex (Ex.move rfl) rfl ?_
        refine O.ex (Ex.move rfl) rfl ?_
        refine O.callF Try.call46 rfl rfl (CT.mono (index_ct (x := b.getD ((i : Nat) : Int).toNat default) (Holds.to (by assumption)) hmem (by omega)) ?_)
        rintro _ w ⟨rfl, H⟩
        rw [show (nst b i).1.idxOf (b.getD ((i : Nat) : Int).toNat default) = k from hk.symm]
        refine O.ex (Ex.assign rfl) rfl ?_
        refine O.nil ?_
        refine hK13 _ _ _ ?_
        refine W.seq (fun K14 hK14 => ?_)
        refine W.region ?_
        refine O.ex (Ex.move rfl) rfl ?_
        refine O.ex (Ex.move rfl) rfl ?_
        refine O.ex (Ex.move rfl) rfl ?_
        refine O.ex (Ex.convI (r := ((k : Nat) : Int)) Try.runUnderlying3 Try.runUnderlying30 rfl (by rw [wrap64]; omega)) rfl ?_
        refine O.ex (Ex.mul (r := ((p : Nat) : Int)) rfl rfl (by rw [wrap64, ← Int.natCast_mul, ← hp]; omega)) rfl ?_
        refine O.ex (Ex.add (r := (((nst b (i + 1)).2.2 : Nat) : Int)) rfl rfl (by rw [wrap64, e2]; omega)) rfl ?_
        refine O.ex (Ex.assign rfl) rfl ?_
        refine O.nil ?_
        refine hK14 _ _ _ ?_
        refine W.seq (fun K15 hK15 => ?_)
        refine W.region ?_
        refine O.ex (Ex.move rfl) rfl ?_
        refine O.ex (Ex.move rfl) rfl ?_
        refine O.ex (by first | exact Ex.lenR Try.runUnderlying22 rfl | exact Ex.lenIn Try.runUnderlying22 rfl | exact Ex.lenL Try.runUnderlying22 rfl | exact Ex.len rfl Try.runUnderlying22 rfl) rfl ?_
        refine O.ex (Ex.convI (r := ((len : Nat) : Int)) Try.runUnderlying3 Try.runUnderlying30 rfl (by rw [wrap64, hlenn]; omega)) rfl ?_
        refine O.ex (Ex.mul (r := (((nst b (i + 1)).2.1 : Nat) : Int)) rfl rfl (by rw [wrap64, ← Int.natCast_mul, e1, ← hq]; omega)) rfl ?_
        refine O.ex (Ex.assign rfl) rfl ?_
        refine O.nil ?_
        refine hK15 _ _ _ ?_
        refine W.region ?_
        refine O.ex (Ex.move rfl) rfl ?_
        refine O.ex (Ex.move rfl) rfl ?_
        refine O.ex (Ex.move rfl) rfl ?_
        refine O.ex (by first | exact Ex.addI rfl rfl | exact Ex.add rfl rfl rfl) rfl ?_
        refine O.callF Try.call47 rfl rfl (CT.mono (del_ct (i := (k : Int)) (Holds.to (by assumption)) (by omega) (by omega) (by omega)) ?_)
        rintro _ w ⟨hvd, H⟩
        rw [Int.toNat_natCast, show (nst b i).1.eraseIdx k = (nst b (i + 1)).1 from by rw [hk]; rfl] at H
        refine O.ex (Ex.assign rfl) rfl ?_
        refine O.nil ?_
        refine hK11 _ _ _ ?_
        refine W.region ?_
        refine O.ex (by first | exact Ex.addI rfl rfl | exact Ex.add rfl rfl rfl) rfl ?_
        refine O.ex (Ex.move rfl) rfl ?_
        refine O.nil ?_
        exact ⟨(i + 1, _), ⟨rfl, rfl, rfl, rfl, rfl, rfl, trivial⟩, ⟨rfl, hib, by assumption, Holds.to (by assumption)⟩, by dsimp only; omega⟩
      · refine W.exit ?_
        refine hK7 _ _ _ ?_
        refine W.seq (fun K16 hK16 => ?_)
        refine W.region ?_
        refine O.ex (Ex.move rfl) rfl ?_
        refine O.ex (Ex.assign rfl) rfl ?_
        refine O.ex (Ex.assign rfl) rfl ?_
        refine O.nil ?_
        refine hK16 _ _ _ ?_
        refine W.ret ?_
        try dsimp only [thenQ, blockQ, retQ]
        first | refine ⟨_, ⟨_, _, rfl, rfl, _, _, rfl, rfl, rfl⟩, ?_⟩ | (refine retD_mark ?_; intro w H; refine ⟨_, ⟨_, _, rfl, rfl, _, _, rfl, rfl, rfl⟩, ?_⟩) | (refine retD_mark2 ?_; intro w H; refine ⟨_, ⟨_, _, rfl, rfl, _, _, rfl, rfl, rfl⟩, ?_⟩)
        first
        | exact .inl ⟨hr, rfl, Holds.to (by assumption)⟩
        | exact .inr (.inl ⟨hr, by omega, rfl, Holds.to (by assumption)⟩)
        | (obtain rfl : i = b.length := by omega
           exact .inr (.inr ⟨hr, by omega, by rw [← hb]; rfl, Holds.to (by assumption)⟩))
  · refine O.ex (Ex.move rfl) rfl ?_
    refine O.ex (Ex.extract rfl rfl) rfl ?_
    refine O.ex (Ex.extract rfl rfl) rfl ?_
    refine O.ex (Ex.assign rfl) rfl ?_
    refine O.ex (Ex.assign rfl) rfl ?_
    refine O.nil ?_
    refine hK1 _ _ _ ?_
    refine W.seq (fun K17 hK17 => ?_)
    refine W.block ?_
    refine W.seq (fun K18 hK18 => ?_)
    refine W.region ?_
    refine O.ex (Ex.move rfl) rfl ?_
    refine O.ex (Ex.neqI rfl rfl) rfl ?_
    refine O.ex (Ex.assign rfl) rfl ?_
    refine O.nil ?_
    refine hK18 _ _ _ ?_
    refine W.known_t rfl (by first | rfl | decide) ?_
    refine W.seq (fun K19 hK19 => ?_)
    refine W.region ?_
    refine O.ex (Ex.move rfl) rfl ?_
    refine O.ex (Ex.assign rfl) rfl ?_
    refine O.ex (Ex.assign rfl) rfl ?_
    refine O.nil ?_
    refine hK19 _ _ _ ?_
    refine W.ret ?_
    try dsimp only [thenQ, blockQ, retQ]
    first | refine ⟨_, ⟨_, _, rfl, rfl, _, _, rfl, rfl, rfl⟩, ?_⟩ | (refine retD_mark ?_; intro w H; refine ⟨_, ⟨_, _, rfl, rfl, _, _, rfl, rfl, rfl⟩, ?_⟩) | (refine retD_mark2 ?_; intro w H; refine ⟨_, ⟨_, _, rfl, rfl, _, _, rfl, rfl, rfl⟩, ?_⟩)
    first
    | exact .inl ⟨hr, rfl, Holds.to (by assumption)⟩
    | exact .inr (.inl ⟨hr, by omega, rfl, Holds.to (by assumption)⟩)
    | (obtain rfl : i = b.length := by omega
       exact .inr (.inr ⟨hr, by omega, by rw [← hb]; rfl, Holds.to (by assumption)⟩))
theorem buildDone : True := trivial
set_option maxHeartbeats 1000000 in
theorem awake07_ct {w : World} {L : List HProp} (H : Holds w L) : CT Try.prog 13 [] w fun u w' => u = .bool true ∧ Holds w' L := by
  have r1 : RightP [2, 0, 1] := by decide
  have r2 : RightP [1, 0, 2] := by decide
  have r3 : ¬ RightP [1, 1] := by decide
  have e1 : invL [2, 0, 1] = [1, 2, 0] := by decide
  have e2 : numN (invL [1, 0, 2]) = 1 := by decide
  have e3 : ofN (hl 3).toNat 1 = [1, 0, 2] := by decide
  have e4 : turnL (hl 3).toNat (-1) = [2, 0, 1] := by decide
  refine CT.enter (N := 60) Try.func13 rfl rfl rfl rfl ?_
  refine W.seq (fun K0 hK0 => ?_)
  refine W.region ?_
  refine O.ex (Ex.assign rfl) rfl ?_
  refine O.nil ?_
  refine hK0 _ _ _ ?_
  refine W.seq (fun K1 hK1 => ?_)
  refine W.region ?_
  refine O.buildK (e := Value.int .i64) (vs := [(0, .int .i64 2), (1, .int .i64 0), (2, .int .i64 1)]) [2, 0, 1] Try.runUnderlying22 Try.sizeOf3 Try.zeroValue3 rfl rfl rfl rfl rfl rfl (fun v8 w hv8 H => ?_)
  refine O.callF Try.call14 rfl rfl (CT.mono (inverseA_ct (l := [2, 0, 1]) (Holds.to (by assumption)) (by decide)) ?_)
  rintro _ w (⟨-, x1, rfl, hx1, H⟩ | ⟨hn, -⟩)
  rotate_left
  · exact absurd r1 hn
  refine O.ex (Ex.move rfl) rfl ?_
  refine O.ex (Ex.extract rfl rfl) rfl ?_
  refine O.ex (Ex.extract rfl rfl) rfl ?_
  refine O.ex (Ex.assign rfl) rfl ?_
  refine O.ex (Ex.assign rfl) rfl ?_
  refine O.nil ?_
  refine hK1 _ _ _ ?_
  refine W.seq (fun K2 hK2 => ?_)
  refine W.region ?_
  refine O.buildK (e := Value.int .i64) (vs := [(0, .int .i64 1), (1, .int .i64 0), (2, .int .i64 2)]) [1, 0, 2] Try.runUnderlying22 Try.sizeOf3 Try.zeroValue3 rfl rfl rfl rfl rfl rfl (fun v13 w hv13 H => ?_)
  refine O.callF Try.call21 rfl rfl (CT.mono (number_ct (l := [1, 0, 2]) (by decide) (Holds.to (by assumption))) ?_)
  rintro _ w (⟨hn, -⟩ | ⟨-, hn, -⟩ | ⟨-, -, rfl, H⟩)
  · exact absurd r2 hn
  · exact absurd hn (by decide)
  rw [e2]
  refine O.ex (Ex.move rfl) rfl ?_
  refine O.ex (Ex.extract rfl rfl) rfl ?_
  refine O.ex (Ex.extract rfl rfl) rfl ?_
  refine O.ex (Ex.assign rfl) rfl ?_
  refine O.ex (Ex.assign rfl) rfl ?_
  refine O.nil ?_
  refine hK2 _ _ _ ?_
  refine W.seq (fun K3 hK3 => ?_)
  refine W.region ?_
  refine O.buildK (e := Value.int .i64) (vs := [(0, .int .i64 1), (1, .int .i64 1)]) [1, 1] Try.runUnderlying22 Try.sizeOf3 Try.zeroValue3 rfl rfl rfl rfl rfl rfl (fun v18 w hv18 H => ?_)
  refine O.callF Try.call14 rfl rfl (CT.mono (inverseA_ct (l := [1, 1]) (Holds.to (by assumption)) (by decide)) ?_)
  rintro _ w (⟨hn, -⟩ | ⟨-, rfl, H⟩)
  · exact absurd hn r3
  refine O.ex (Ex.move rfl) rfl ?_
  refine O.ex (Ex.extract rfl rfl) rfl ?_
  refine O.ex (Ex.extract rfl rfl) rfl ?_
  refine O.ex (Ex.assign rfl) rfl ?_
  refine O.ex (Ex.assign rfl) rfl ?_
  refine O.nil ?_
  refine hK3 _ _ _ ?_
  refine W.seq (fun K4 hK4 => ?_)
  refine W.region ?_
  refine O.buildK (e := Value.int .i64) (vs := [(0, .int .i64 1), (1, .int .i64 0)]) [1, 0] Try.runUnderlying22 Try.sizeOf3 Try.zeroValue3 rfl rfl rfl rfl rfl rfl (fun v22 w hv22 H => ?_)
  refine O.callF Try.call16 rfl rfl (CT.mono (rightA_ct (l := [1, 0]) (Holds.to (by assumption)) (by decide)) ?_)
  rintro _ w ⟨rfl, H⟩
  refine O.ex (Ex.move rfl) rfl ?_
  refine O.known (t := 24) (c := true) rfl (by first | rfl | decide | exact decide_eq_true e1 | exact decide_eq_true e3) ?_
  refine O.guard_t rfl rfl ?_
  refine O.buildK (e := Value.int .i64) (vs := [(0, .int .i64 1)]) [1] Try.runUnderlying22 Try.sizeOf3 Try.zeroValue3 rfl rfl rfl rfl rfl rfl (fun v25 w hv25 H => ?_)
  refine O.guard_t rfl rfl ?_
  refine O.callF Try.call16 rfl rfl (CT.mono (rightA_ct (l := [1]) (Holds.to (by assumption)) (by decide)) ?_)
  rintro _ w ⟨rfl, H⟩
  refine O.guard_t rfl rfl ?_
  refine O.ex (by first | exact Ex.notD rfl | exact Ex.not rfl) rfl ?_
  refine O.ex (Ex.pick_t rfl rfl) rfl ?_
  refine O.ex (Ex.move rfl) rfl ?_
  refine O.known (t := 29) (c := true) rfl (by first | rfl | decide | exact decide_eq_true e1 | exact decide_eq_true e3) ?_
  refine O.guard_t rfl rfl ?_
  refine O.ex (Ex.move rfl) rfl ?_
  refine O.guard_t rfl rfl ?_
  refine O.buildK (e := Value.int .i64) (vs := [(0, .int .i64 1), (1, .int .i64 2), (2, .int .i64 0)]) [1, 2, 0] Try.runUnderlying22 Try.sizeOf3 Try.zeroValue3 rfl rfl rfl rfl rfl rfl (fun v31 w hv31 H => ?_)
  refine O.guard_t rfl rfl ?_
  refine O.callF Try.call17 rfl rfl (CT.mono (intsA_ct (xs := invL [2, 0, 1]) (l := [1, 2, 0]) (Holds.to (by assumption)) (by decide) (by decide)) ?_)
  rintro _ w ⟨rfl, H⟩
  refine O.ex (Ex.pick_t rfl rfl) rfl ?_
  refine O.ex (Ex.move rfl) rfl ?_
  refine O.known (t := 34) (c := true) rfl (by first | rfl | decide | exact decide_eq_true e1 | exact decide_eq_true e3) ?_
  refine O.guard_t rfl rfl ?_
  refine O.ex (Ex.move rfl) rfl ?_
  refine O.guard_t rfl rfl ?_
  refine O.ex (Ex.eqlI rfl rfl) rfl ?_
  refine O.ex (Ex.pick_t rfl rfl) rfl ?_
  refine O.ex (Ex.move rfl) rfl ?_
  refine O.known (t := 38) (c := true) rfl (by first | rfl | decide | exact decide_eq_true e1 | exact decide_eq_true e3) ?_
  refine O.guard_t rfl rfl ?_
  refine O.ex (Ex.move rfl) rfl ?_
  refine O.guard_t rfl rfl ?_
  refine O.ex (Ex.eql64 _ 1 rfl rfl) rfl ?_
  refine O.ex (Ex.pick_t rfl rfl) rfl ?_
  refine O.ex (Ex.move rfl) rfl ?_
  refine O.known (t := 42) (c := true) rfl (by first | rfl | decide | exact decide_eq_true e1 | exact decide_eq_true e3) ?_
  refine O.guard_t rfl rfl ?_
  refine O.ex (Ex.move rfl) rfl ?_
  refine O.guard_t rfl rfl ?_
  refine O.ex (Ex.eqlI rfl rfl) rfl ?_
  refine O.ex (Ex.pick_t rfl rfl) rfl ?_
  refine O.ex (Ex.move rfl) rfl ?_
  refine O.known (t := 46) (c := true) rfl (by first | rfl | decide | exact decide_eq_true e1 | exact decide_eq_true e3) ?_
  refine O.guard_t rfl rfl ?_
  refine O.ex (Ex.move rfl) rfl ?_
  refine O.guard_t rfl rfl ?_
  refine O.ex (Ex.eqlI rfl rfl) rfl ?_
  refine O.ex (Ex.pick_t rfl rfl) rfl ?_
  refine O.ex (Ex.move rfl) rfl ?_
  refine O.known (t := 50) (c := true) rfl (by first | rfl | decide | exact decide_eq_true e1 | exact decide_eq_true e3) ?_
  refine O.guard_t rfl rfl ?_
  refine O.callF Try.call20 rfl rfl (CT.mono (of_ct (n := 3) (a := 1) (by decide) (Holds.to (by assumption))) ?_)
  rintro _ w ⟨hv51, H⟩
  refine O.guard_t rfl rfl ?_
  refine O.buildK (e := Value.int .i64) (vs := [(0, .int .i64 1), (1, .int .i64 0), (2, .int .i64 2)]) [1, 0, 2] Try.runUnderlying22 Try.sizeOf3 Try.zeroValue3 rfl rfl rfl rfl rfl rfl (fun v52 w hv52 H => ?_)
  refine O.guard_t rfl rfl ?_
  refine O.callF Try.call17 rfl rfl (CT.mono (intsA_ct (xs := ofN (hl 3).toNat 1) (l := [1, 0, 2]) (Holds.to (by assumption)) (by rw [e3]; decide) (by decide)) ?_)
  rintro _ w ⟨rfl, H⟩
  refine O.ex (Ex.pick_t rfl rfl) rfl ?_
  refine O.ex (Ex.move rfl) rfl ?_
  refine O.known (t := 55) (c := true) rfl (by first | rfl | decide | exact decide_eq_true e1 | exact decide_eq_true e3) ?_
  refine O.guard_t rfl rfl ?_
  refine O.callF Try.call25 rfl rfl (CT.mono (turned_ct (n := 3) (by_ := -1) (by decide) (by decide) (Holds.to (by assumption))) ?_)
  rintro _ w ⟨hv56, H⟩
  refine O.guard_t rfl rfl ?_
  refine O.buildK (e := Value.int .i64) (vs := [(0, .int .i64 2), (1, .int .i64 0), (2, .int .i64 1)]) [2, 0, 1] Try.runUnderlying22 Try.sizeOf3 Try.zeroValue3 rfl rfl rfl rfl rfl rfl (fun v57 w hv57 H => ?_)
  refine O.guard_t rfl rfl ?_
  refine O.callF Try.call17 rfl rfl (CT.mono (intsA_ct (xs := turnL (hl 3).toNat (-1)) (l := [2, 0, 1]) (Holds.to (by assumption)) (by rw [e4]; decide) (by decide)) ?_)
  rintro _ w ⟨rfl, H⟩
  refine O.ex (Ex.pick_t rfl rfl) rfl ?_
  refine O.ex (Ex.assign rfl) rfl ?_
  refine O.nil ?_
  refine hK4 _ _ _ ?_
  refine W.ret ?_
  try dsimp only [thenQ, blockQ, retQ]
  first | refine ⟨_, ⟨_, _, rfl, rfl, rfl⟩, ?_⟩ | (refine retD_mark ?_; intro w H; refine ⟨_, ⟨_, _, rfl, rfl, rfl⟩, ?_⟩) | (refine retD_mark2 ?_; intro w H; refine ⟨_, ⟨_, _, rfl, rfl, rfl⟩, ?_⟩)
  exact ⟨by simp only [oneOf]; exact congrArg Value.bool (decide_eq_true e4), Holds.to (by assumption)⟩
end Go.Proofs.Ythpmohkmjfhmmaa
