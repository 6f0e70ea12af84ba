import Derived.Test.YtblapiiinbppiaaGreatDoorRank2
namespace Go.Proofs.YtblapiiinbppiaaGreatDoor
open Go.Rr Go Gr Hp Wt
set_option linter.unusedVariables false
set_option linter.unusedSimpArgs false
theorem wf_r10 {q : Int} (hq : (Lit.int .u8 q).wf = true) : (Lit.int .u8 (q % 10)).wf = true := by
  obtain ⟨q0, q1⟩ := bounds_u8 hq
  have h0 : 0 ≤ q % 10 := Int.emod_nonneg _ (by decide)
  have h1 : q % 10 < 10 := Int.emod_lt_of_pos _ (by decide)
  simp [Lit.wf, IntKind.min, IntKind.max, IntKind.bits, IntKind.signed]
  omega
def freeF (s : St) : Nat → Int
  | 0 => -1
  | k + 1 => if (s k).tk = true then freeF s k else (k : Int)
theorem freeF_spec (s : St) : ∀ k, freeF s k = -1 ∨ ∃ j : Nat, freeF s k = (j : Int) ∧ j < k ∧ (s j).tk = false
  | 0 => .inl rfl
  | k + 1 => by
    unfold freeF
    by_cases h : (s k).tk = true
    · rw [if_pos h]
      rcases freeF_spec s k with e | ⟨j, e, h1, h2⟩
      · exact .inl e
      · exact .inr ⟨j, e, by omega, h2⟩
    · rw [if_neg h]; exact .inr ⟨k, rfl, by omega, by simpa using h⟩
theorem cnt_free {s : St} {j : Nat} (hj : j < 64) (h : (s j).tk = false) : cnt s < 64 := by
  unfold cnt idsI lstP
  rw [List.length_map]
  have : ((List.range 64).filter (tkP s)).length < (List.range 64).length := by
    rw [List.length_filter_lt_length_iff_exists]
    exact ⟨j, List.mem_range.2 hj, by show ¬ (tkP s j = true); unfold tkP; rw [h]; decide⟩
  rw [List.length_range] at this
  omega
theorem cG_worse {n most : Int} {s : St} {j : Nat} {b : Arc} {k : Int} (hg : GOk n most s) (hg' : GOk n most (upS s j ⟨b, true⟩)) (hfree : (s j).tk = false) (hk : pl k) (hkt : (s k.toNat).tk = true)
    (ht : b.t = (s k.toNat).a.t) (hh : b.h = (s k.toNat).a.h) (hw : b.cl = false → (s k.toNat).a.w ≤ b.w) (hc : b.cl = false → (s k.toNat).a.t ≠ (s k.toNat).a.h → (s k.toNat).a.cl = false) (u w : Int) : cG (upS s j ⟨b, true⟩) u w = cG s u w := by
  refine Int.le_antisymm ?_ ?_
  · by_cases hn : cG s u w = 4611686018427387906
    · rw [hn]; exact (cG_good hg').hi u w
    · obtain ⟨hne, i, hm, e⟩ := cG_ex hg hn
      have hij : i.toNat ≠ j := fun h => by
        have := hm.2.1
        rw [h, hfree] at this; cases this
      have hm' : mt (upS s j ⟨b, true⟩) u w i := by
        obtain ⟨h1, h2, h3, h4, h5⟩ := hm
        refine ⟨h1, ?_, ?_, ?_, ?_⟩ <;> rw [upS_other hij] <;> assumption
      have := cG_le hg' hm' hne
      rw [upS_other hij] at this
      rw [e]; exact this
  · by_cases hn : cG (upS s j ⟨b, true⟩) u w = 4611686018427387906
    · rw [hn]; exact (cG_good hg).hi u w
    · obtain ⟨hne, i, hm, e⟩ := cG_ex hg' hn
      rw [e]
      obtain ⟨h1, h2, h3, h4, h5⟩ := hm
      by_cases hij : i.toNat = j
      · rw [hij, upS_same] at h3 h4 h5 ⊢
        dsimp only at h3 h4 h5 ⊢
        have hm2 : mt s u w k := ⟨hk, hkt, hc h3 (by rw [← ht, ← hh, h4, h5]; exact hne), by rw [← ht]; exact h4, by rw [← hh]; exact h5⟩
        exact Int.le_trans (cG_le hg hm2 hne) (hw h3)
      · rw [upS_other hij] at h2 h3 h4 h5 ⊢
        exact cG_le hg ⟨h1, h2, h3, h4, h5⟩ hne
theorem rankF_len {n settles : Int} {c : Int → Int → Int} (hg : Good n c) : (rankF n settles c).length = n.toNat := (rk_ok (settles := settles) hg n.toNat).ol
theorem zints_ct {w : World} {va vb : Value} {xs : List Int} {S1 S2 : HProp} {L : List HProp} (h1 : Rd S1 va xs) (h2 : Rd S2 vb xs) (hl : xs.length ≤ 1000) (H : Holds w (S1 :: S2 :: L)) :
    CT Tryz.prog 8 [va, vb] w fun u w' => u = .bool true ∧ Holds w' (S1 :: S2 :: L) := by
  obtain ⟨a, ca, rfl⟩ := h1.form H
  obtain ⟨b, cb, rfl⟩ := h2.form H.swap
  refine CT.enter (N := 26) Tryz.func8 rfl rfl rfl rfl ?_
  refine W.seq (fun K0 hK0 => ?_)
  refine W.region ?_
  refine O.ex (Ex.assign rfl) rfl ?_
  refine O.nil ?_
  refine hK0 _ _ _ ?_
  refine W.seq (fun K1 hK1 => ?_)
  refine W.seq (fun K2 hK2 => ?_)
  refine W.region ?_
  refine O.ex (Ex.move rfl) rfl ?_
  refine O.ex (by first | exact Ex.lenR Tryz.runUnderlying28 rfl | exact Ex.lenIn Tryz.runUnderlying28 rfl | exact Ex.lenL Tryz.runUnderlying28 rfl | exact Ex.len rfl Tryz.runUnderlying28 rfl) rfl ?_
  refine O.ex (Ex.move rfl) rfl ?_
  refine O.ex (by first | exact Ex.lenR Tryz.runUnderlying28 rfl | exact Ex.lenIn Tryz.runUnderlying28 rfl | exact Ex.lenL Tryz.runUnderlying28 rfl | exact Ex.len rfl Tryz.runUnderlying28 rfl) rfl ?_
  refine O.ex (Ex.neqI rfl rfl) rfl ?_
  refine O.nil ?_
  refine hK2 _ _ _ ?_
  refine W.known_f rfl (by first | rfl | decide | exact decide_eq_false (fun hh => hh rfl)) ?_
  refine W.skip ?_
  refine hK1 _ _ _ ?_
  refine W.seq (fun K3 hK3 => ?_)
  refine W.seq (fun K4 hK4 => ?_)
  refine W.region ?_
  refine O.ex (Ex.assign rfl) rfl ?_
  refine O.nil ?_
  refine hK4 _ _ _ ?_
  refine W.block ?_
  refine W.loop (σ := Nat) (fun i => [(0, .slice a xs.length ca), (1, .slice b xs.length cb), (5, .int .i64 (i : Int))]) (fun i ds w => ds = [] ∧ i ≤ xs.length ∧ Holds w (S1 :: S2 :: L)) (fun i => xs.length - i) 0 ⟨rfl, rfl, rfl, trivial⟩ ⟨rfl, by omega, Holds.to (by assumption)⟩ ?_
  clear H
  rintro i _ w ⟨rfl, hi, H⟩
  refine W.seq (fun K5 hK5 => ?_)
  refine W.seq (fun K6 hK6 => ?_)
  refine W.region ?_
  refine O.ex (Ex.move rfl) rfl ?_
  refine O.ex (Ex.move rfl) rfl ?_
  refine O.ex (by first | exact Ex.lenR Tryz.runUnderlying28 rfl | exact Ex.lenIn Tryz.runUnderlying28 rfl | exact Ex.lenL Tryz.runUnderlying28 rfl | exact Ex.len rfl Tryz.runUnderlying28 rfl) rfl ?_
  refine O.ex (Ex.lss rfl rfl) rfl ?_
  refine O.nil ?_
  refine hK6 _ _ _ ?_
  first | refine W.cond_p rfl (fun hlt => ?_) (fun hge => ?_) | refine W.cond_b rfl (fun hlt => ?_) (fun hge => ?_)
  · refine W.skip ?_
    refine hK5 _ _ _ ?_
    refine W.seq (fun K7 hK7 => ?_)
    refine W.block ?_
    refine W.seq (fun K8 hK8 => ?_)
    have hil : i < xs.length := by omega
    refine W.drawTo _ (.take 0 (.take 1 (.take 2 (.take 3 (.take 4 (.take 5 (.take 6 (.take 7 (.take 8 .nil))))))))) (mixed) (fun _ _ _ _ h => h) (by assumption) (PP.refl _) (by decide +kernel) (fun w H => ?_)
    refine OQ.ex rfl (fun w H => (Ex.move rfl)) rfl ?_
    refine OQ.ex rfl (fun w H => (Ex.move rfl)) rfl ?_
    refine OQ.ex rfl (fun w H => (Ex.idxRd h1 Tryz.runUnderlying28 Tryz.sizeOf3 rfl rfl)) rfl ?_
    refine OQ.ex rfl (fun w H => (Ex.loadRd (i := i) h1 Tryz.isAgg3 rfl)) rfl ?_
    refine OQ.ex rfl (fun w H => (Ex.move rfl)) rfl ?_
    refine OQ.ex rfl (fun w H => (Ex.move rfl)) rfl ?_
    refine OQ.ex rfl (fun w H => (Ex.idxRd h2 Tryz.runUnderlying28 Tryz.sizeOf3 rfl rfl)) rfl ?_
    refine OQ.ex rfl (fun w H => (Ex.loadRd (i := i) h2 Tryz.isAgg3 rfl)) rfl ?_
    refine OQ.ex rfl (fun w H => (Ex.neqI rfl rfl)) rfl ?_
    refine OQ.done ?_
    refine hK8 _ _ _ ?_
    refine W.known_f rfl (by first | rfl | decide | exact decide_eq_false (fun hh => hh rfl)) ?_
    refine W.skip ?_
    refine hK7 _ _ _ ?_
    refine W.region ?_
    refine O.ex (Ex.move rfl) rfl ?_
    refine O.ex (by first | exact Ex.addI rfl rfl | exact Ex.add rfl rfl rfl) rfl ?_
    refine O.ex (Ex.assign rfl) rfl ?_
    refine O.nil ?_
    exact ⟨i + 1, ⟨rfl, rfl, rfl, trivial⟩, ⟨rfl, by omega, Holds.to (by assumption)⟩, by omega⟩
  · refine W.exit ?_
    refine hK3 _ _ _ ?_
    refine W.seq (fun K9 hK9 => ?_)
    refine W.region ?_
    refine O.ex (Ex.assign rfl) rfl ?_
    refine O.nil ?_
    refine hK9 _ _ _ ?_
    refine W.ret ?_
    try dsimp only [thenQ, blockQ, retQ]
    first | refine ⟨_, ⟨_, _, rfl, rfl, rfl⟩, ?_⟩ | (refine retD_mark ?_; intro w H; refine ⟨_, ⟨_, _, rfl, rfl, rfl⟩, ?_⟩) | (refine retD_mark2 ?_; intro w H; refine ⟨_, ⟨_, _, rfl, rfl, rfl⟩, ?_⟩)
    exact ⟨rfl, by first | assumption | exact Holds.to (by assumption)⟩
set_option maxHeartbeats 4000000 in
theorem orderParallel_ct {w0 : World} {q p z : Int} {lv : Value} {l : List Chg} (hT : TabAt w0) (hq : (Lit.int .u8 q).wf = true) (hp : (Lit.int .u8 p).wf = true) (hz : (Lit.int .u8 z).wf = true) (hx : SlIn w0 6 Chg.enc lv l) (hl : l.length ≤ 9223372036854775807) :
    CT Tryz.prog 4 [.int .u8 q, lv, .int .u8 p, .int .u8 z] w0 fun x w' => x = .bool true ∧ RowKit.Below w0.heap.size w0 w' := by
  obtain ⟨q0, q1⟩ := bounds_u8 hq
  obtain ⟨p0, p1⟩ := bounds_u8 hp
  obtain ⟨z0, z1⟩ := bounds_u8 hz
  have hq10 := wf_r10 hq
  have H := Holds.base_refl w0
  refine CT.enter (N := 100) Tryz.func4 rfl rfl rfl rfl ?_
  refine W.seq (fun K0 hK0 => ?_)
  refine W.region ?_
  refine O.ex (Ex.assign rfl) rfl ?_
  refine O.nil ?_
  refine hK0 _ _ _ ?_
  refine W.seq (fun K1 hK1 => ?_)
  refine W.seq (fun K2 hK2 => ?_)
  refine W.region ?_
  refine O.callF Tryz.call5 rfl rfl (CT.mono (awake14_ct (Holds.to (by assumption))) ?_)
  rintro _ w ⟨rfl, H⟩
  refine O.ex (by first | exact Ex.notD rfl | exact Ex.not rfl) rfl ?_
  refine O.nil ?_
  refine hK2 _ _ _ ?_
  refine W.known_f rfl (by first | rfl | decide | exact decide_eq_false (fun hh => hh hins)) ?_
  refine W.skip ?_
  refine hK1 _ _ _ ?_
  refine W.seq (fun K3 hK3 => ?_)
  refine W.region ?_
  refine O.ex (Ex.move rfl) rfl ?_
  refine O.ex (by first | exact Ex.remI rfl rfl | exact Ex.rem rfl rfl (by omega) rfl) rfl ?_
  refine O.ex (Ex.move rfl) rfl ?_
  refine O.callF Tryz.call6 rfl rfl (CT.mono (made08_ct hq10 hx hl (Holds.to (M := base w0 :: _) (by assumption))) ?_)
  rintro _ w ⟨g, r, hg, rfl, H⟩
  refine O.ex (Ex.move rfl) rfl ?_
  refine O.ex (Ex.extract rfl rfl) rfl ?_
  refine O.ex (Ex.extract rfl rfl) rfl ?_
  refine O.ex (Ex.assign rfl) rfl ?_
  refine O.ex (Ex.assign rfl) rfl ?_
  refine O.nil ?_
  refine hK3 _ _ _ ?_
  refine W.seq (fun K4 hK4 => ?_)
  refine W.seq (fun K5 hK5 => ?_)
  refine W.region ?_
  refine O.ex (Ex.move rfl) rfl ?_
  refine O.ex (Ex.nilEq Tryz.runUnderlying24 rfl rfl) rfl ?_
  refine O.nil ?_
  refine hK5 _ _ _ ?_
  refine W.known_f rfl (by first | rfl | decide | exact decide_eq_false (fun hh => hh hins)) ?_
  refine W.skip ?_
  refine hK4 _ _ _ ?_
  refine W.seq (fun K6 hK6 => ?_)
  refine W.region ?_
  obtain ⟨s, hs⟩ : ∃ s, s = doAll (1 + q % 10 % 24) 64 noS (l.take 150) := ⟨_, rfl⟩
  rw [← hs] at hg H
  obtain ⟨n, hn⟩ : ∃ n, n = 1 + q % 10 % 24 := ⟨_, rfl⟩
  rw [← hn] at hg H
  have n1 := hg.n1
  have n2 := hg.n2
  have hG := cG_good hg
  refine O.ex (Ex.move rfl) rfl ?_
  refine O.callF Tryz.call7 rfl rfl (CT.mono (rank_ct (g := g) (settles := 24) hT hg (Holds.to (M := base w0 :: Gh g n 64 s :: _) (by assumption))) ?_)
  rintro _ w ⟨hav, H⟩
  rename_i av
  have hRl := rankF_len (settles := 24) hG
  refine O.ex (Ex.assign rfl) rfl ?_
  refine O.nil ?_
  refine hK6 _ _ _ ?_
  refine W.seq (fun K7 hK7 => ?_)
  refine W.region ?_
  obtain ⟨k, hk⟩ : ∃ k, k = p % 64 := ⟨_, rfl⟩
  have hpl : pl k := ⟨by omega, by omega⟩
  refine O.ex (Ex.move rfl) rfl ?_
  refine O.ex (Ex.move rfl) rfl ?_
  refine O.ex (by first | exact Ex.convToI Tryz.runUnderlying5 Tryz.runUnderlying3 rfl | exact Ex.convW Tryz.runUnderlying5 Tryz.runUnderlying3 rfl) rfl ?_
  refine O.ex (by first | exact Ex.remI rfl rfl | exact Ex.rem rfl rfl (by omega) rfl) rfl ?_
  rw [← hk]
  refine O.callF Tryz.call11 rfl rfl (CT.mono (rarc_ct (r := r) hg (Holds.to (M := Rg r n 64 s :: _) (by assumption))) ?_)
  rintro _ w ⟨rfl, H⟩
  refine O.ex (Ex.move rfl) rfl ?_
  refine O.ex (Ex.extract rfl rfl) rfl ?_
  refine O.ex (Ex.extract rfl rfl) rfl ?_
  refine O.allocP Tryz.zeroValue35 (fun b12 w H => ?_)
  first | refine O.storeAggP Tryz.sizeOf35 rfl rfl rfl rfl (fun w H => ?_) | refine O.storeAggN Tryz.sizeOf35 rfl rfl rfl (fun w H => ?_) rfl
  obtain ⟨a, ha⟩ : ∃ a, a = arcQ s k := ⟨_, rfl⟩
  replace H : Holds w (Rg r n 64 s :: pt b12 (.cells #[.int .i64 a.t, .int .i64 a.h, .int .i64 a.w, .bool a.cl] 35 (0, 0)) :: arr 3 (Value.int .i64) av (rankF n 24 (cG s)) :: Gh g n 64 s :: base w0 :: []) := by rw [ha]; exact Holds.to H
  refine O.ex (Ex.assign rfl) rfl ?_
  refine O.nil ?_
  refine hK7 _ _ _ ?_
  refine W.seq (fun K8 hK8 => ?_)
  refine W.region ?_
  refine O.ex (Ex.assign rfl) rfl ?_
  refine O.nil ?_
  refine hK8 _ _ _ ?_
  refine W.seq (fun K9 hK9 => ?_)
  refine W.seq (fun K10 hK10 => ?_)
  refine W.region ?_
  refine O.ex (Ex.assign rfl) rfl ?_
  refine O.nil ?_
  refine hK10 _ _ _ ?_
  refine W.block ?_
  refine W.loop (σ := Nat) (fun i => [(3, .int .u8 z), (9, .pointer (some ⟨g, 0, none⟩)), (10, .pointer (some ⟨r, 0, none⟩)), (11, av), (12, .pointer (some ⟨b12, 0, none⟩)), (13, .bool (thB s k)), (14, .int .i64 (freeF s i)), (15, .int .i64 (i : Int))]) (fun i ds w => ds = [] ∧ i ≤ 64 ∧ Holds w (Rg r n 64 s :: pt b12 (.cells #[.int .i64 a.t, .int .i64 a.h, .int .i64 a.w, .bool a.cl] 35 (0, 0)) :: arr 3 (Value.int .i64) av (rankF n 24 (cG s)) :: Gh g n 64 s :: base w0 :: [])) (fun i => 64 - i) 0 ⟨rfl, rfl, rfl, rfl, rfl, rfl, rfl, rfl, trivial⟩ ⟨rfl, by omega, Holds.to (by assumption)⟩ ?_
  clear H
  rintro i _ w ⟨rfl, hi, H⟩
  refine W.seq (fun K11 hK11 => ?_)
  refine W.seq (fun K12 hK12 => ?_)
  refine W.region ?_
  refine O.ex (Ex.move rfl) rfl ?_
  refine O.ex (Ex.lss rfl rfl) rfl ?_
  refine O.nil ?_
  refine hK12 _ _ _ ?_
  first | refine W.cond_p rfl (fun hlt => ?_) (fun hge => ?_) | refine W.cond_b rfl (fun hlt => ?_) (fun hge => ?_)
  · refine W.skip ?_
    refine hK11 _ _ _ ?_
    refine W.seq (fun K13 hK13 => ?_)
    refine W.block ?_
    refine W.seq (fun K14 hK14 => ?_)
    refine W.region ?_
    have i0 : (0 : Int) ≤ (i : Int) := by omega
    have i1 : (i : Int) < 64 := hlt
    have it : ((i : Nat) : Int).toNat = i := Int.toNat_natCast i
    refine O.ex (Ex.move rfl) rfl ?_
    refine O.ex (Ex.move rfl) rfl ?_
    refine O.ex (by first | exact Ex.nilPtr rfl | exact Ex.nilFunc rfl | exact Ex.nilYield rfl) rfl ?_
    refine O.ex (by first | exact Ex.field0 fld41_2 rfl | exact Ex.field fld41_2 rfl | exact Ex.fieldS fld41_2 rfl | exact Ex.fieldIn fld41_2 rfl) rfl ?_
    refine O.ex (Ex.idxArr Tryz.runUnderlying38 Tryz.sizeOf4 rfl rfl) rfl ?_
    refine O.ex (Ex.cast (v := .bool (s i).tk) (Ex.loadRT (i := (i : Int)) Tryz.isAgg4 rfl (Holds.to (M := Rg r n 64 s :: []) (by assumption)) i0 i1) (by rw [it])) rfl ?_
    refine O.ex (by first | exact Ex.notD rfl | exact Ex.not rfl) rfl ?_
    refine O.nil ?_
    refine hK14 _ _ _ ?_
    first | refine W.cond_p rfl (fun hfr => ?_) (fun htk => ?_) | refine W.cond_b rfl (fun hfr => ?_) (fun htk => ?_)
    · refine W.region ?_
      refine O.ex (Ex.move rfl) rfl ?_
      refine O.ex (Ex.assign rfl) rfl ?_
      refine O.nil ?_
      refine hK13 _ _ _ ?_
      refine W.region ?_
      refine O.ex (Ex.move rfl) rfl ?_
      refine O.ex (by first | exact Ex.addI rfl rfl | exact Ex.add rfl rfl rfl) rfl ?_
      refine O.ex (Ex.assign rfl) rfl ?_
      refine O.nil ?_
      have ef : freeF s (i + 1) = if (s i).tk = true then freeF s i else (i : Int) := rfl
      first
      | (have h9 : ¬ (s i).tk = true := by simpa using hfr
         rw [if_neg h9] at ef
         exact ⟨i + 1, ⟨rfl, rfl, rfl, rfl, rfl, rfl, by rw [ef]; rfl, rfl, trivial⟩, ⟨rfl, by omega, Holds.to (by assumption)⟩, by omega⟩)
      | (have h9 : (s i).tk = true := by simpa using htk
         rw [if_pos h9] at ef
         exact ⟨i + 1, ⟨rfl, rfl, rfl, rfl, rfl, rfl, by rw [ef]; rfl, rfl, trivial⟩, ⟨rfl, by omega, Holds.to (by assumption)⟩, by omega⟩)
    · refine W.skip ?_
      refine hK13 _ _ _ ?_
      refine W.region ?_
      refine O.ex (Ex.move rfl) rfl ?_
      refine O.ex (by first | exact Ex.addI rfl rfl | exact Ex.add rfl rfl rfl) rfl ?_
      refine O.ex (Ex.assign rfl) rfl ?_
      refine O.nil ?_
      have ef : freeF s (i + 1) = if (s i).tk = true then freeF s i else (i : Int) := rfl
      first
      | (have h9 : ¬ (s i).tk = true := by simpa using hfr
         rw [if_neg h9] at ef
         exact ⟨i + 1, ⟨rfl, rfl, rfl, rfl, rfl, rfl, by rw [ef]; rfl, rfl, trivial⟩, ⟨rfl, by omega, Holds.to (by assumption)⟩, by omega⟩)
      | (have h9 : (s i).tk = true := by simpa using htk
         rw [if_pos h9] at ef
         exact ⟨i + 1, ⟨rfl, rfl, rfl, rfl, rfl, rfl, by rw [ef]; rfl, rfl, trivial⟩, ⟨rfl, by omega, Holds.to (by assumption)⟩, by omega⟩)
  · refine W.exit ?_
    refine hK9 _ _ _ ?_
    refine W.seq (fun K15 hK15 => ?_)
    refine W.seq (fun K16 hK16 => ?_)
    refine W.region ?_
    refine O.ex (Ex.move rfl) rfl ?_
    refine O.ex (by first | exact Ex.notD rfl | exact Ex.not rfl) rfl ?_
    refine O.ex (Ex.move rfl) rfl ?_
    first | refine O.split_p (t := 52) rfl (fun hno => ?_) (fun hyes => ?_) | refine O.split (t := 52) rfl (fun hno => ?_) (fun hyes => ?_)
    · refine O.guard_f rfl rfl rfl rfl ?_
      refine O.guard_f rfl rfl rfl rfl ?_
      refine O.ex (Ex.pick_t rfl rfl) rfl ?_
      refine O.nil ?_
      refine hK16 _ _ _ ?_
      refine W.cond_t rfl ?_
      refine W.seq (fun K17 hK17 => ?_)
      refine W.region ?_
      refine O.ex (Ex.move rfl) rfl ?_
      refine O.ex (by first | exact Ex.lenR Tryz.runUnderlying28 rfl | exact Ex.lenIn Tryz.runUnderlying28 rfl | exact Ex.lenL Tryz.runUnderlying28 rfl | exact Ex.len rfl Tryz.runUnderlying28 rfl) rfl ?_
      refine O.ex (Ex.move rfl) rfl ?_
      refine O.ex (by first | exact Ex.nilPtr rfl | exact Ex.nilFunc rfl | exact Ex.nilYield rfl) rfl ?_
      refine O.ex (by first | exact Ex.field0 fld41_0 rfl | exact Ex.field fld41_0 rfl | exact Ex.fieldS fld41_0 rfl | exact Ex.fieldIn fld41_0 rfl) rfl ?_
      refine O.ex (by first | exact Ex.loadRN Tryz.isAgg3 rfl | exact Ex.loadRT Tryz.isAgg3 rfl | exact Ex.loadMh Tryz.isAgg3 rfl | exact Ex.loadInF Tryz.isAgg3 rfl (Holds.to (by assumption)) | exact Ex.loadP Tryz.isAgg3 rfl | exact Ex.loadM Tryz.isAgg3 rfl | exact Ex.loadIn1 Tryz.isAgg3 rfl (Holds.to (by assumption)) | exact Ex.loadVc Tryz.isAgg3 rfl | exact Ex.loadR Tryz.isAgg3 rfl | exact Ex.loadQ Tryz.isAgg3 rfl) rfl ?_
      refine O.ex (Ex.eqlI rfl rfl) rfl ?_
      refine O.ex (Ex.assign rfl) rfl ?_
      refine O.nil ?_
      refine hK17 _ _ _ ?_
      refine W.ret ?_
      try dsimp only [thenQ, blockQ, retQ]
      first | refine ⟨_, ⟨_, _, rfl, rfl, rfl⟩, ?_⟩ | (refine retD_mark ?_; intro w H; refine ⟨_, ⟨_, _, rfl, rfl, rfl⟩, ?_⟩) | (refine retD_mark2 ?_; intro w H; refine ⟨_, ⟨_, _, rfl, rfl, rfl⟩, ?_⟩)
      first
      | exact ⟨rfl, Holds.base_below (L := []) (Holds.to (by assumption))⟩
      | (have hlen : ((rankF n 24 (cG s)).length : Int) = n := by rw [hRl]; omega
         exact ⟨congrArg Value.bool (decide_eq_true hlen), Holds.base_below (L := []) (Holds.to (by assumption))⟩)
    · refine O.guard_t rfl rfl ?_
      refine O.ex (Ex.move rfl) rfl ?_
      refine O.guard_t rfl rfl ?_
      refine O.ex (Ex.lss rfl rfl) rfl ?_
      refine O.ex (Ex.pick_f rfl rfl) rfl ?_
      refine O.nil ?_
      refine hK16 _ _ _ ?_
      first | refine W.cond_p rfl (fun hbad => ?_) (fun hok => ?_) | refine W.cond_b rfl (fun hbad => ?_) (fun hok => ?_)
      · refine W.seq (fun K18 hK18 => ?_)
        refine W.region ?_
        refine O.ex (Ex.move rfl) rfl ?_
        refine O.ex (by first | exact Ex.lenR Tryz.runUnderlying28 rfl | exact Ex.lenIn Tryz.runUnderlying28 rfl | exact Ex.lenL Tryz.runUnderlying28 rfl | exact Ex.len rfl Tryz.runUnderlying28 rfl) rfl ?_
        refine O.ex (Ex.move rfl) rfl ?_
        refine O.ex (by first | exact Ex.nilPtr rfl | exact Ex.nilFunc rfl | exact Ex.nilYield rfl) rfl ?_
        refine O.ex (by first | exact Ex.field0 fld41_0 rfl | exact Ex.field fld41_0 rfl | exact Ex.fieldS fld41_0 rfl | exact Ex.fieldIn fld41_0 rfl) rfl ?_
        refine O.ex (by first | exact Ex.loadRN Tryz.isAgg3 rfl | exact Ex.loadRT Tryz.isAgg3 rfl | exact Ex.loadMh Tryz.isAgg3 rfl | exact Ex.loadInF Tryz.isAgg3 rfl (Holds.to (by assumption)) | exact Ex.loadP Tryz.isAgg3 rfl | exact Ex.loadM Tryz.isAgg3 rfl | exact Ex.loadIn1 Tryz.isAgg3 rfl (Holds.to (by assumption)) | exact Ex.loadVc Tryz.isAgg3 rfl | exact Ex.loadR Tryz.isAgg3 rfl | exact Ex.loadQ Tryz.isAgg3 rfl) rfl ?_
        refine O.ex (Ex.eqlI rfl rfl) rfl ?_
        refine O.ex (Ex.assign rfl) rfl ?_
        refine O.nil ?_
        refine hK18 _ _ _ ?_
        refine W.ret ?_
        try dsimp only [thenQ, blockQ, retQ]
        first | refine ⟨_, ⟨_, _, rfl, rfl, rfl⟩, ?_⟩ | (refine retD_mark ?_; intro w H; refine ⟨_, ⟨_, _, rfl, rfl, rfl⟩, ?_⟩) | (refine retD_mark2 ?_; intro w H; refine ⟨_, ⟨_, _, rfl, rfl, rfl⟩, ?_⟩)
        first
        | exact ⟨rfl, Holds.base_below (L := []) (Holds.to (by assumption))⟩
        | (have hlen : ((rankF n 24 (cG s)).length : Int) = n := by rw [hRl]; omega
           exact ⟨congrArg Value.bool (decide_eq_true hlen), Holds.base_below (L := []) (Holds.to (by assumption))⟩)
      · refine W.skip ?_
        refine hK15 _ _ _ ?_
        refine W.seq (fun K19 hK19 => ?_)
        refine W.region ?_
        have hth : thB s k = true := by simpa using hyes
        have h64 : i = 64 := by omega
        obtain ⟨j, hj, hj64, hjf⟩ : ∃ j : Nat, freeF s i = (j : Int) ∧ j < 64 ∧ (s j).tk = false := by
          rcases freeF_spec s i with e | ⟨j, e, h1, h2⟩
          · exact absurd (show freeF s i < 0 by rw [e]; decide) hok
          · exact ⟨j, e, by omega, h2⟩
        rw [hj]
        have htk : (s k.toNat).tk = true := by unfold thB at hth; rw [decide_eq_true hpl, Bool.true_and] at hth; exact hth
        have haq : a = (s k.toNat).a := by rw [ha]; exact if_pos hpl
        obtain ⟨⟨a1, a2⟩, a5, a6⟩ := hg.arc _ htk
        rw [← haq] at a1 a2 a5 a6
        refine O.ex (by first | exact Ex.field0 fld35_0 rfl | exact Ex.field fld35_0 rfl | exact Ex.fieldS fld35_0 rfl | exact Ex.fieldIn fld35_0 rfl) rfl ?_
        refine O.ex (by first | exact Ex.loadRN Tryz.isAgg3 rfl | exact Ex.loadRT Tryz.isAgg3 rfl | exact Ex.loadMh Tryz.isAgg3 rfl | exact Ex.loadInF Tryz.isAgg3 rfl (Holds.to (by assumption)) | exact Ex.loadP Tryz.isAgg3 rfl | exact Ex.loadM Tryz.isAgg3 rfl | exact Ex.loadIn1 Tryz.isAgg3 rfl (Holds.to (by assumption)) | exact Ex.loadVc Tryz.isAgg3 rfl | exact Ex.loadR Tryz.isAgg3 rfl | exact Ex.loadQ Tryz.isAgg3 rfl) rfl ?_
        refine O.ex (by first | exact Ex.field0 fld35_1 rfl | exact Ex.field fld35_1 rfl | exact Ex.fieldS fld35_1 rfl | exact Ex.fieldIn fld35_1 rfl) rfl ?_
        refine O.ex (by first | exact Ex.loadRN Tryz.isAgg3 rfl | exact Ex.loadRT Tryz.isAgg3 rfl | exact Ex.loadMh Tryz.isAgg3 rfl | exact Ex.loadInF Tryz.isAgg3 rfl (Holds.to (by assumption)) | exact Ex.loadP Tryz.isAgg3 rfl | exact Ex.loadM Tryz.isAgg3 rfl | exact Ex.loadIn1 Tryz.isAgg3 rfl (Holds.to (by assumption)) | exact Ex.loadVc Tryz.isAgg3 rfl | exact Ex.loadR Tryz.isAgg3 rfl | exact Ex.loadQ Tryz.isAgg3 rfl) rfl ?_
        refine O.ex (by first | exact Ex.field0 fld35_2 rfl | exact Ex.field fld35_2 rfl | exact Ex.fieldS fld35_2 rfl | exact Ex.fieldIn fld35_2 rfl) rfl ?_
        refine O.ex (by first | exact Ex.loadRN Tryz.isAgg3 rfl | exact Ex.loadRT Tryz.isAgg3 rfl | exact Ex.loadMh Tryz.isAgg3 rfl | exact Ex.loadInF Tryz.isAgg3 rfl (Holds.to (by assumption)) | exact Ex.loadP Tryz.isAgg3 rfl | exact Ex.loadM Tryz.isAgg3 rfl | exact Ex.loadIn1 Tryz.isAgg3 rfl (Holds.to (by assumption)) | exact Ex.loadVc Tryz.isAgg3 rfl | exact Ex.loadR Tryz.isAgg3 rfl | exact Ex.loadQ Tryz.isAgg3 rfl) rfl ?_
        refine O.ex (Ex.minI rfl rfl) rfl ?_
        refine O.ex (Ex.move rfl) rfl ?_
        refine O.ex (by first | exact Ex.convToI Tryz.runUnderlying5 Tryz.runUnderlying3 rfl | exact Ex.convW Tryz.runUnderlying5 Tryz.runUnderlying3 rfl) rfl ?_
        refine O.ex (by first | exact Ex.addI rfl rfl | exact Ex.add rfl rfl rfl) rfl ?_
        refine O.ex (Ex.build rfl (bld35_0_1_2 _ _ _ (by first | rfl | assumption) (by first | rfl | assumption) (by first | rfl | assumption))) rfl ?_
        refine O.allocP Tryz.zeroValue35 (fun b16 w H => ?_)
        first | refine O.storeAggP Tryz.sizeOf35 rfl rfl rfl rfl (fun w H => ?_) | refine O.storeAggN Tryz.sizeOf35 rfl rfl rfl (fun w H => ?_) rfl
        obtain ⟨ww, hww⟩ : ∃ ww, ww = min a.w 2305843009213693952 + z := ⟨_, rfl⟩
        replace H : Holds w (pt b16 (.cells #[.int .i64 a.t, .int .i64 a.h, .int .i64 ww, .bool false] 35 (0, 0)) :: pt b12 (.cells #[.int .i64 a.t, .int .i64 a.h, .int .i64 a.w, .bool a.cl] 35 (0, 0)) :: arr 3 (Value.int .i64) av (rankF n 24 (cG s)) :: Gh g n 64 s :: Rg r n 64 s :: base w0 :: []) := by rw [hww]; exact Holds.to H
        refine O.nil ?_
        refine hK19 _ _ _ ?_
        refine W.seq (fun K20 hK20 => ?_)
        refine W.region ?_
        refine O.ex (by first | exact Ex.field0 fld35_2 rfl | exact Ex.field fld35_2 rfl | exact Ex.fieldS fld35_2 rfl | exact Ex.fieldIn fld35_2 rfl) rfl ?_
        refine O.ex (by first | exact Ex.loadRN Tryz.isAgg3 rfl | exact Ex.loadRT Tryz.isAgg3 rfl | exact Ex.loadMh Tryz.isAgg3 rfl | exact Ex.loadInF Tryz.isAgg3 rfl (Holds.to (by assumption)) | exact Ex.loadP Tryz.isAgg3 rfl | exact Ex.loadM Tryz.isAgg3 rfl | exact Ex.loadIn1 Tryz.isAgg3 rfl (Holds.to (by assumption)) | exact Ex.loadVc Tryz.isAgg3 rfl | exact Ex.loadR Tryz.isAgg3 rfl | exact Ex.loadQ Tryz.isAgg3 rfl) rfl ?_
        refine O.ex (by first | exact Ex.field0 fld35_2 rfl | exact Ex.field fld35_2 rfl | exact Ex.fieldS fld35_2 rfl | exact Ex.fieldIn fld35_2 rfl) rfl ?_
        refine O.ex (by first | exact Ex.loadRN Tryz.isAgg3 rfl | exact Ex.loadRT Tryz.isAgg3 rfl | exact Ex.loadMh Tryz.isAgg3 rfl | exact Ex.loadInF Tryz.isAgg3 rfl (Holds.to (by assumption)) | exact Ex.loadP Tryz.isAgg3 rfl | exact Ex.loadM Tryz.isAgg3 rfl | exact Ex.loadIn1 Tryz.isAgg3 rfl (Holds.to (by assumption)) | exact Ex.loadVc Tryz.isAgg3 rfl | exact Ex.loadR Tryz.isAgg3 rfl | exact Ex.loadQ Tryz.isAgg3 rfl) rfl ?_
        refine O.ex (Ex.lss rfl rfl) rfl ?_
        refine O.ex (Ex.move rfl) rfl ?_
        first | refine O.split_p (t := 79) rfl (fun hlt1 => ?_) (fun hge1 => ?_) | refine O.split (t := 79) rfl (fun hlt1 => ?_) (fun hge1 => ?_)
        · refine O.guard_f rfl rfl rfl rfl ?_
          refine O.guard_f rfl rfl rfl rfl ?_
          refine O.guard_f rfl rfl rfl rfl ?_
          refine O.guard_u rfl rfl rfl ?_
          refine O.guard_u rfl rfl rfl ?_
          refine O.guard_u rfl rfl rfl ?_
          refine O.guard_u rfl rfl rfl ?_
          refine O.guard_u rfl rfl rfl ?_
          refine O.guard_f rfl rfl rfl rfl ?_
          refine O.ex (Ex.pick_t rfl rfl) rfl ?_
          refine O.ex (by first | exact Ex.field0 fld35_3 rfl | exact Ex.field fld35_3 rfl | exact Ex.fieldS fld35_3 rfl | exact Ex.fieldIn fld35_3 rfl) rfl ?_
          first | refine O.storeP Tryz.sizeOf4 rfl rfl (fun w H => ?_) | refine O.storeR Tryz.sizeOf4 rfl rfl (fun w H => ?_) | refine O.storeM Tryz.sizeOf4 rfl rfl (fun w H => ?_) | refine O.storeVc Tryz.sizeOf4 rfl rfl (fun w H => ?_) | refine O.storeQ Tryz.sizeOf4 rfl rfl (fun w H => ?_)
          refine O.nil ?_
          refine hK20 _ _ _ ?_
          refine W.seq (fun K21 hK21 => ?_)
          refine W.seq (fun K22 hK22 => ?_)
          refine W.region ?_
          obtain ⟨cl, hcl, H⟩ : ∃ cl, (cl = false → a.w ≤ ww ∧ (a.t ≠ a.h → a.cl = false)) ∧ Holds w (pt b16 (.cells #[.int .i64 a.t, .int .i64 a.h, .int .i64 ww, .bool cl] 35 (0, 0)) :: pt b12 (.cells #[.int .i64 a.t, .int .i64 a.h, .int .i64 a.w, .bool a.cl] 35 (0, 0)) :: arr 3 (Value.int .i64) av (rankF n 24 (cG s)) :: Gh g n 64 s :: Rg r n 64 s :: base w0 :: []) := by
            refine ⟨_, ?_, Holds.to H⟩
            intro h
            first
            | (have h9 : (true : Bool) = false := h
               cases h9)
            | (have hge2 : ¬ ww < a.w := hge1
               have h9 : decide (a.t ≠ a.h) = false := h
               exact ⟨by omega, fun hne => absurd hne (by simpa using h9)⟩)
            | (have hge2 : ¬ ww < a.w := hge1
               have h9 : a.cl = false := by simpa using hc2
               exact ⟨by omega, fun _ => h9⟩)
          obtain ⟨b, hb⟩ : ∃ b : Arc, b = ⟨a.t, a.h, ww, cl⟩ := ⟨_, rfl⟩
          have hjt : ((j : Nat) : Int).toNat = j := Int.toNat_natCast j
          have hokA : okA n b := by rw [hb]; exact ⟨⟨a1, a2⟩, by show 1 ≤ ww ∧ ww ≤ 4611686018427387904; omega⟩
          have hins : insC n 64 s (j : Int) b = 0 := insC_zero.2 ⟨⟨⟨by omega, by omega⟩, hokA⟩, by rw [hjt]; exact hjf, cnt_free hj64 hjf⟩
          have hS : insS n 64 s (j : Int) b = upS s j ⟨b, true⟩ := by unfold insS; rw [if_pos hins, hjt]
          have hg2 : GOk n 64 (upS s j ⟨b, true⟩) := by rw [← hS]; exact ok_ins hg _ _
          have hcc : cG (upS s j ⟨b, true⟩) = cG s := by
            funext u v
            refine cG_worse (k := k) hg hg2 hjf hpl htk (by rw [hb, ← haq]) (by rw [hb, ← haq]) (fun h => ?_) (fun h hne => ?_) u v
            · rw [hb] at h ⊢; rw [← haq]; exact (hcl h).1
            · rw [hb] at h; rw [← haq] at hne ⊢; exact (hcl h).2 hne
          refine O.ex (Ex.move rfl) rfl ?_
          refine O.ex (Ex.move rfl) rfl ?_
          refine O.ex (Ex.cast (v := b.val) (Ex.loadAggP Tryz.isAgg35 Tryz.sizeOf35 rfl) (by rw [hb]; rfl)) rfl ?_
          refine O.callF Tryz.call12 rfl rfl (CT.mono (ginsert_ct (g := g) (id := (j : Int)) (a := b) hg (Holds.to (M := Gh g n 64 s :: _) (by assumption))) ?_)
          rintro _ w ⟨rfl, H⟩
          rw [hS] at H
          refine O.ex (Ex.neqI rfl rfl) rfl ?_
          refine O.nil ?_
          refine hK22 _ _ _ ?_
          refine W.known_f rfl (by first | rfl | decide | exact decide_eq_false (fun hh => hh hins)) ?_
          refine W.skip ?_
          refine hK21 _ _ _ ?_
          refine W.seq (fun K23 hK23 => ?_)
          refine W.region ?_
          refine O.ex (Ex.move rfl) rfl ?_
          refine O.callF Tryz.call7 rfl rfl (CT.mono (rank_ct (g := g) (settles := 24) hT hg2 (Holds.to (M := base w0 :: Gh g n 64 (upS s j ⟨b, true⟩) :: _) (by assumption))) ?_)
          rintro _ w ⟨hbv, H⟩
          rename_i bv
          rw [hcc] at H
          refine O.ex (Ex.move rfl) rfl ?_
          refine O.callF Tryz.call8 rfl rfl (CT.mono (zints_ct (S1 := arr 3 (Value.int .i64) bv (rankF n 24 (cG s))) (S2 := arr 3 (Value.int .i64) av (rankF n 24 (cG s))) Rd.ofArr Rd.ofArr (by rw [hRl]; omega) (Holds.to (by assumption))) ?_)
          rintro _ w ⟨rfl, H⟩
          refine O.ex (Ex.assign rfl) rfl ?_
          refine O.nil ?_
          refine hK23 _ _ _ ?_
          refine W.ret ?_
          try dsimp only [thenQ, blockQ, retQ]
          first | refine ⟨_, ⟨_, _, rfl, rfl, rfl⟩, ?_⟩ | (refine retD_mark ?_; intro w H; refine ⟨_, ⟨_, _, rfl, rfl, rfl⟩, ?_⟩) | (refine retD_mark2 ?_; intro w H; refine ⟨_, ⟨_, _, rfl, rfl, rfl⟩, ?_⟩)
          first
          | exact ⟨rfl, Holds.base_below (L := []) (Holds.to (by assumption))⟩
          | (have hlen : ((rankF n 24 (cG s)).length : Int) = n := by rw [hRl]; omega
             exact ⟨congrArg Value.bool (decide_eq_true hlen), Holds.base_below (L := []) (Holds.to (by assumption))⟩)
        · refine O.guard_t rfl rfl ?_
          refine O.ex (by first | exact Ex.field0 fld35_3 rfl | exact Ex.field fld35_3 rfl | exact Ex.fieldS fld35_3 rfl | exact Ex.fieldIn fld35_3 rfl) rfl ?_
          refine O.guard_t rfl rfl ?_
          refine O.ex (by first | exact Ex.loadRN Tryz.isAgg4 rfl | exact Ex.loadRT Tryz.isAgg4 rfl | exact Ex.loadMh Tryz.isAgg4 rfl | exact Ex.loadInF Tryz.isAgg4 rfl (Holds.to (by assumption)) | exact Ex.loadP Tryz.isAgg4 rfl | exact Ex.loadM Tryz.isAgg4 rfl | exact Ex.loadIn1 Tryz.isAgg4 rfl (Holds.to (by assumption)) | exact Ex.loadVc Tryz.isAgg4 rfl | exact Ex.loadR Tryz.isAgg4 rfl | exact Ex.loadQ Tryz.isAgg4 rfl) rfl ?_
          refine O.guard_t rfl rfl ?_
          refine O.ex (Ex.move rfl) rfl ?_
          first | refine O.split_p (t := 82) rfl (fun hc1 => ?_) (fun hc2 => ?_) | refine O.split (t := 82) rfl (fun hc1 => ?_) (fun hc2 => ?_)
          · refine O.guard_t rfl rfl ?_
            refine O.ex (by first | exact Ex.field0 fld35_0 rfl | exact Ex.field fld35_0 rfl | exact Ex.fieldS fld35_0 rfl | exact Ex.fieldIn fld35_0 rfl) rfl ?_
            refine O.guard_t rfl rfl ?_
            refine O.ex (by first | exact Ex.loadRN Tryz.isAgg3 rfl | exact Ex.loadRT Tryz.isAgg3 rfl | exact Ex.loadMh Tryz.isAgg3 rfl | exact Ex.loadInF Tryz.isAgg3 rfl (Holds.to (by assumption)) | exact Ex.loadP Tryz.isAgg3 rfl | exact Ex.loadM Tryz.isAgg3 rfl | exact Ex.loadIn1 Tryz.isAgg3 rfl (Holds.to (by assumption)) | exact Ex.loadVc Tryz.isAgg3 rfl | exact Ex.loadR Tryz.isAgg3 rfl | exact Ex.loadQ Tryz.isAgg3 rfl) rfl ?_
            refine O.guard_t rfl rfl ?_
            refine O.ex (by first | exact Ex.field0 fld35_1 rfl | exact Ex.field fld35_1 rfl | exact Ex.fieldS fld35_1 rfl | exact Ex.fieldIn fld35_1 rfl) rfl ?_
            refine O.guard_t rfl rfl ?_
            refine O.ex (by first | exact Ex.loadRN Tryz.isAgg3 rfl | exact Ex.loadRT Tryz.isAgg3 rfl | exact Ex.loadMh Tryz.isAgg3 rfl | exact Ex.loadInF Tryz.isAgg3 rfl (Holds.to (by assumption)) | exact Ex.loadP Tryz.isAgg3 rfl | exact Ex.loadM Tryz.isAgg3 rfl | exact Ex.loadIn1 Tryz.isAgg3 rfl (Holds.to (by assumption)) | exact Ex.loadVc Tryz.isAgg3 rfl | exact Ex.loadR Tryz.isAgg3 rfl | exact Ex.loadQ Tryz.isAgg3 rfl) rfl ?_
            refine O.guard_t rfl rfl ?_
            refine O.ex (Ex.neqI rfl rfl) rfl ?_
            refine O.guard_t rfl rfl ?_
            refine O.ex (Ex.pick_t rfl rfl) rfl ?_
            refine O.ex (Ex.pick_f rfl rfl) rfl ?_
            refine O.ex (by first | exact Ex.field0 fld35_3 rfl | exact Ex.field fld35_3 rfl | exact Ex.fieldS fld35_3 rfl | exact Ex.fieldIn fld35_3 rfl) rfl ?_
            first | refine O.storeP Tryz.sizeOf4 rfl rfl (fun w H => ?_) | refine O.storeR Tryz.sizeOf4 rfl rfl (fun w H => ?_) | refine O.storeM Tryz.sizeOf4 rfl rfl (fun w H => ?_) | refine O.storeVc Tryz.sizeOf4 rfl rfl (fun w H => ?_) | refine O.storeQ Tryz.sizeOf4 rfl rfl (fun w H => ?_)
            refine O.nil ?_
            refine hK20 _ _ _ ?_
            refine W.seq (fun K24 hK24 => ?_)
            refine W.seq (fun K25 hK25 => ?_)
            refine W.region ?_
            obtain ⟨cl, hcl, H⟩ : ∃ cl, (cl = false → a.w ≤ ww ∧ (a.t ≠ a.h → a.cl = false)) ∧ Holds w (pt b16 (.cells #[.int .i64 a.t, .int .i64 a.h, .int .i64 ww, .bool cl] 35 (0, 0)) :: pt b12 (.cells #[.int .i64 a.t, .int .i64 a.h, .int .i64 a.w, .bool a.cl] 35 (0, 0)) :: arr 3 (Value.int .i64) av (rankF n 24 (cG s)) :: Gh g n 64 s :: Rg r n 64 s :: base w0 :: []) := by
              refine ⟨_, ?_, Holds.to H⟩
              intro h
              first
              | (have h9 : (true : Bool) = false := h
                 cases h9)
              | (have hge2 : ¬ ww < a.w := hge1
                 have h9 : decide (a.t ≠ a.h) = false := h
                 exact ⟨by omega, fun hne => absurd hne (by simpa using h9)⟩)
              | (have hge2 : ¬ ww < a.w := hge1
                 have h9 : a.cl = false := by simpa using hc2
                 exact ⟨by omega, fun _ => h9⟩)
            obtain ⟨b, hb⟩ : ∃ b : Arc, b = ⟨a.t, a.h, ww, cl⟩ := ⟨_, rfl⟩
            have hjt : ((j : Nat) : Int).toNat = j := Int.toNat_natCast j
            have hokA : okA n b := by rw [hb]; exact ⟨⟨a1, a2⟩, by show 1 ≤ ww ∧ ww ≤ 4611686018427387904; omega⟩
            have hins : insC n 64 s (j : Int) b = 0 := insC_zero.2 ⟨⟨⟨by omega, by omega⟩, hokA⟩, by rw [hjt]; exact hjf, cnt_free hj64 hjf⟩
            have hS : insS n 64 s (j : Int) b = upS s j ⟨b, true⟩ := by unfold insS; rw [if_pos hins, hjt]
            have hg2 : GOk n 64 (upS s j ⟨b, true⟩) := by rw [← hS]; exact ok_ins hg _ _
            have hcc : cG (upS s j ⟨b, true⟩) = cG s := by
              funext u v
              refine cG_worse (k := k) hg hg2 hjf hpl htk (by rw [hb, ← haq]) (by rw [hb, ← haq]) (fun h => ?_) (fun h hne => ?_) u v
              · rw [hb] at h ⊢; rw [← haq]; exact (hcl h).1
              · rw [hb] at h; rw [← haq] at hne ⊢; exact (hcl h).2 hne
            refine O.ex (Ex.move rfl) rfl ?_
            refine O.ex (Ex.move rfl) rfl ?_
            refine O.ex (Ex.cast (v := b.val) (Ex.loadAggP Tryz.isAgg35 Tryz.sizeOf35 rfl) (by rw [hb]; rfl)) rfl ?_
            refine O.callF Tryz.call12 rfl rfl (CT.mono (ginsert_ct (g := g) (id := (j : Int)) (a := b) hg (Holds.to (M := Gh g n 64 s :: _) (by assumption))) ?_)
            rintro _ w ⟨rfl, H⟩
            rw [hS] at H
            refine O.ex (Ex.neqI rfl rfl) rfl ?_
            refine O.nil ?_
            refine hK25 _ _ _ ?_
            refine W.known_f rfl (by first | rfl | decide | exact decide_eq_false (fun hh => hh hins)) ?_
            refine W.skip ?_
            refine hK24 _ _ _ ?_
            refine W.seq (fun K26 hK26 => ?_)
            refine W.region ?_
            refine O.ex (Ex.move rfl) rfl ?_
            refine O.callF Tryz.call7 rfl rfl (CT.mono (rank_ct (g := g) (settles := 24) hT hg2 (Holds.to (M := base w0 :: Gh g n 64 (upS s j ⟨b, true⟩) :: _) (by assumption))) ?_)
            rintro _ w ⟨hbv, H⟩
            rename_i bv
            rw [hcc] at H
            refine O.ex (Ex.move rfl) rfl ?_
            refine O.callF Tryz.call8 rfl rfl (CT.mono (zints_ct (S1 := arr 3 (Value.int .i64) bv (rankF n 24 (cG s))) (S2 := arr 3 (Value.int .i64) av (rankF n 24 (cG s))) Rd.ofArr Rd.ofArr (by rw [hRl]; omega) (Holds.to (by assumption))) ?_)
            rintro _ w ⟨rfl, H⟩
            refine O.ex (Ex.assign rfl) rfl ?_
            refine O.nil ?_
            refine hK26 _ _ _ ?_
            refine W.ret ?_
            try dsimp only [thenQ, blockQ, retQ]
            first | refine ⟨_, ⟨_, _, rfl, rfl, rfl⟩, ?_⟩ | (refine retD_mark ?_; intro w H; refine ⟨_, ⟨_, _, rfl, rfl, rfl⟩, ?_⟩) | (refine retD_mark2 ?_; intro w H; refine ⟨_, ⟨_, _, rfl, rfl, rfl⟩, ?_⟩)
            first
            | exact ⟨rfl, Holds.base_below (L := []) (Holds.to (by assumption))⟩
            | (have hlen : ((rankF n 24 (cG s)).length : Int) = n := by rw [hRl]; omega
               exact ⟨congrArg Value.bool (decide_eq_true hlen), Holds.base_below (L := []) (Holds.to (by assumption))⟩)
          · refine O.guard_f rfl rfl rfl rfl ?_
            refine O.guard_f rfl rfl rfl rfl ?_
            refine O.guard_f rfl rfl rfl rfl ?_
            refine O.guard_f rfl rfl rfl rfl ?_
            refine O.guard_f rfl rfl rfl rfl ?_
            refine O.guard_t rfl rfl ?_
            refine O.ex (Ex.pick_f rfl rfl) rfl ?_
            refine O.ex (Ex.pick_f rfl rfl) rfl ?_
            refine O.ex (by first | exact Ex.field0 fld35_3 rfl | exact Ex.field fld35_3 rfl | exact Ex.fieldS fld35_3 rfl | exact Ex.fieldIn fld35_3 rfl) rfl ?_
            first | refine O.storeP Tryz.sizeOf4 rfl rfl (fun w H => ?_) | refine O.storeR Tryz.sizeOf4 rfl rfl (fun w H => ?_) | refine O.storeM Tryz.sizeOf4 rfl rfl (fun w H => ?_) | refine O.storeVc Tryz.sizeOf4 rfl rfl (fun w H => ?_) | refine O.storeQ Tryz.sizeOf4 rfl rfl (fun w H => ?_)
            refine O.nil ?_
            refine hK20 _ _ _ ?_
            refine W.seq (fun K27 hK27 => ?_)
            refine W.seq (fun K28 hK28 => ?_)
            refine W.region ?_
            obtain ⟨cl, hcl, H⟩ : ∃ cl, (cl = false → a.w ≤ ww ∧ (a.t ≠ a.h → a.cl = false)) ∧ Holds w (pt b16 (.cells #[.int .i64 a.t, .int .i64 a.h, .int .i64 ww, .bool cl] 35 (0, 0)) :: pt b12 (.cells #[.int .i64 a.t, .int .i64 a.h, .int .i64 a.w, .bool a.cl] 35 (0, 0)) :: arr 3 (Value.int .i64) av (rankF n 24 (cG s)) :: Gh g n 64 s :: Rg r n 64 s :: base w0 :: []) := by
              refine ⟨_, ?_, Holds.to H⟩
              intro h
              first
              | (have h9 : (true : Bool) = false := h
                 cases h9)
              | (have hge2 : ¬ ww < a.w := hge1
                 have h9 : decide (a.t ≠ a.h) = false := h
                 exact ⟨by omega, fun hne => absurd hne (by simpa using h9)⟩)
              | (have hge2 : ¬ ww < a.w := hge1
                 have h9 : a.cl = false := by simpa using hc2
                 exact ⟨by omega, fun _ => h9⟩)
            obtain ⟨b, hb⟩ : ∃ b : Arc, b = ⟨a.t, a.h, ww, cl⟩ := ⟨_, rfl⟩
            have hjt : ((j : Nat) : Int).toNat = j := Int.toNat_natCast j
            have hokA : okA n b := by rw [hb]; exact ⟨⟨a1, a2⟩, by show 1 ≤ ww ∧ ww ≤ 4611686018427387904; omega⟩
            have hins : insC n 64 s (j : Int) b = 0 := insC_zero.2 ⟨⟨⟨by omega, by omega⟩, hokA⟩, by rw [hjt]; exact hjf, cnt_free hj64 hjf⟩
            have hS : insS n 64 s (j : Int) b = upS s j ⟨b, true⟩ := by unfold insS; rw [if_pos hins, hjt]
            have hg2 : GOk n 64 (upS s j ⟨b, true⟩) := by rw [← hS]; exact ok_ins hg _ _
            have hcc : cG (upS s j ⟨b, true⟩) = cG s := by
              funext u v
              refine cG_worse (k := k) hg hg2 hjf hpl htk (by rw [hb, ← haq]) (by rw [hb, ← haq]) (fun h => ?_) (fun h hne => ?_) u v
              · rw [hb] at h ⊢; rw [← haq]; exact (hcl h).1
              · rw [hb] at h; rw [← haq] at hne ⊢; exact (hcl h).2 hne
            refine O.ex (Ex.move rfl) rfl ?_
            refine O.ex (Ex.move rfl) rfl ?_
            refine O.ex (Ex.cast (v := b.val) (Ex.loadAggP Tryz.isAgg35 Tryz.sizeOf35 rfl) (by rw [hb]; rfl)) rfl ?_
            refine O.callF Tryz.call12 rfl rfl (CT.mono (ginsert_ct (g := g) (id := (j : Int)) (a := b) hg (Holds.to (M := Gh g n 64 s :: _) (by assumption))) ?_)
            rintro _ w ⟨rfl, H⟩
            rw [hS] at H
            refine O.ex (Ex.neqI rfl rfl) rfl ?_
            refine O.nil ?_
            refine hK28 _ _ _ ?_
            refine W.known_f rfl (by first | rfl | decide | exact decide_eq_false (fun hh => hh hins)) ?_
            refine W.skip ?_
            refine hK27 _ _ _ ?_
            refine W.seq (fun K29 hK29 => ?_)
            refine W.region ?_
            refine O.ex (Ex.move rfl) rfl ?_
            refine O.callF Tryz.call7 rfl rfl (CT.mono (rank_ct (g := g) (settles := 24) hT hg2 (Holds.to (M := base w0 :: Gh g n 64 (upS s j ⟨b, true⟩) :: _) (by assumption))) ?_)
            rintro _ w ⟨hbv, H⟩
            rename_i bv
            rw [hcc] at H
            refine O.ex (Ex.move rfl) rfl ?_
            refine O.callF Tryz.call8 rfl rfl (CT.mono (zints_ct (S1 := arr 3 (Value.int .i64) bv (rankF n 24 (cG s))) (S2 := arr 3 (Value.int .i64) av (rankF n 24 (cG s))) Rd.ofArr Rd.ofArr (by rw [hRl]; omega) (Holds.to (by assumption))) ?_)
            rintro _ w ⟨rfl, H⟩
            refine O.ex (Ex.assign rfl) rfl ?_
            refine O.nil ?_
            refine hK29 _ _ _ ?_
            refine W.ret ?_
            try dsimp only [thenQ, blockQ, retQ]
            first | refine ⟨_, ⟨_, _, rfl, rfl, rfl⟩, ?_⟩ | (refine retD_mark ?_; intro w H; refine ⟨_, ⟨_, _, rfl, rfl, rfl⟩, ?_⟩) | (refine retD_mark2 ?_; intro w H; refine ⟨_, ⟨_, _, rfl, rfl, rfl⟩, ?_⟩)
            first
            | exact ⟨rfl, Holds.base_below (L := []) (Holds.to (by assumption))⟩
            | (have hlen : ((rankF n 24 (cG s)).length : Int) = n := by rw [hRl]; omega
               exact ⟨congrArg Value.bool (decide_eq_true hlen), Holds.base_below (L := []) (Holds.to (by assumption))⟩)
theorem orderParallel_row {w0 : World} {q p z : Int} {lv : Value} {l : List Chg} (hT : TabAt w0) (hq : (Lit.int .u8 q).wf = true) (hx : SlIn w0 6 Chg.enc lv l) (hg : ∀ x ∈ l, x.ok) (hl : l.length ≤ maxLen) (hp : (Lit.int .u8 p).wf = true) (hz : (Lit.int .u8 z).wf = true) :
    CT Tryz.prog 4 [.int .u8 q, lv, .int .u8 p, .int .u8 z] w0 fun x w' => x = .bool true ∧ RowKit.Below w0.heap.size w0 w' :=
  orderParallel_ct hT hq hp hz hx (by unfold maxLen at hl; omega)
end Go.Proofs.YtblapiiinbppiaaGreatDoor
