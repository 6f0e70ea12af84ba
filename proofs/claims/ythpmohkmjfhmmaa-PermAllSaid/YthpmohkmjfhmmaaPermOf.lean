import Derived.Test.YthpmohkmjfhmmaaPerm5
--ARR
namespace Go.Proofs.Ythpmohkmjfhmmaa
open Go.Rr Go
set_option linter.unusedVariables false
theorem u64_nat {m : Int} (h : (Lit.int .u64 m).wf = true) : ∃ s : Nat, m = s ∧ s < 18446744073709551616 := by
  simp [Lit.wf, IntKind.min, IntKind.max, IntKind.signed, IntKind.bits] at h
  exact ⟨m.toNat, by omega, by omega⟩
theorem i64_rng {m : Int} (h : (Lit.int .i64 m).wf = true) : -9223372036854775808 ≤ m ∧ m ≤ 9223372036854775807 := by
  simp [Lit.wf, IntKind.min, IntKind.max, IntKind.signed, IntKind.bits] at h
  omega
theorem map_rng_len (k : Nat) (g : Int → Int) : ((rng k).map g).length = k := by rw [List.length_map, rng_len]
theorem map_rng_get (k : Nat) (g : Int → Int) (i : Nat) (h : i < k) : ((rng k).map g).getD i default = g i := by
  rw [getD_lt _ _ (by rw [map_rng_len]; exact h), List.getElem_map]
  have := rng_get k i h
  rw [getD_lt _ _ (by rw [rng_len]; exact h)] at this
  rw [this]
theorem fallL_len (k : Nat) : (fallL k).length = k := map_rng_len _ _
theorem turnL_len (k : Nat) (b : Int) : (turnL k b).length = k := map_rng_len _ _
set_option maxHeartbeats 1000000 in
theorem permOf_ct {w0 : World} {n m by_ : Int} (hm : (Lit.int .u64 m).wf = true) (hb : (Lit.int .i64 by_).wf = true) :
    CT Try.prog 6 [.int .i64 n, .int .u64 m, .int .i64 by_] w0 fun u w' => u = .bool true ∧ RowKit.Below w0.heap.size w0 w' := by
  have H := Holds.base_refl w0
  obtain ⟨a, rfl, ha⟩ := u64_nat hm
  obtain ⟨b0, b1⟩ := i64_rng hb
  obtain ⟨h0, h1⟩ := hl_rng n
  obtain ⟨k, hk⟩ : ∃ k, k = (hl n).toNat := ⟨_, rfl⟩
  have hkk : hl n = (k : Int) := by omega
  have hol := ofN_len k a
  have l1 := rng_len k
  have l2 := fallL_len k
  have l3 := turnL_len k by_
  refine CT.enter (N := 87) Try.func6 rfl rfl rfl rfl ?_
  refine W.seq (fun K0 hK0 => ?_)
  refine W.region ?_
  refine O.ex (Ex.assign rfl) rfl ?_
  refine O.nil ?_
  refine hK0 _ _ _ ?_
  refine W.seq (fun K1 hK1 => ?_)
  refine W.seq (fun K2 hK2 => ?_)
  refine W.region ?_
  refine O.callF Try.call13 rfl rfl (CT.mono (awake07_ct (Holds.to (by assumption))) ?_)
  rintro _ w ⟨rfl, H⟩
  refine O.ex (by first | exact Ex.notD rfl | exact Ex.not rfl) rfl ?_
  refine O.nil ?_
  refine hK2 _ _ _ ?_
  refine W.known_f rfl (by first | rfl | decide | exact decide_eq_false (fun hh => hh rfl) | (refine decide_eq_false ?_; omega) | exact decide_eq_false (fun hh => hh g1) | exact decide_eq_false (fun hh => hh g2) | exact decide_eq_false (fun hh => hh g3)) ?_
  refine W.skip ?_
  refine hK1 _ _ _ ?_
  refine W.seq (fun K3 hK3 => ?_)
  refine W.region ?_
  refine O.ex (Ex.move rfl) rfl ?_
  refine O.callF Try.call19 rfl rfl (CT.mono (refHeld_ct (Holds.to (by assumption))) ?_)
  rintro _ w ⟨rfl, H⟩
  rw [hkk]
  refine O.ex (Ex.assign rfl) rfl ?_
  refine O.nil ?_
  refine hK3 _ _ _ ?_
  refine W.seq (fun K4 hK4 => ?_)
  refine W.seq (fun K5 hK5 => ?_)
  refine W.region ?_
  refine O.ex (Ex.move rfl) rfl ?_
  refine O.ex (Ex.move rfl) rfl ?_
  refine O.callF Try.call20 rfl rfl (CT.mono (of_ct (n := n) (a := a) ha (Holds.to (by assumption))) ?_)
  rintro _ w ⟨ho1, H⟩
  rw [← hk] at H
  refine O.ex (Ex.move rfl) rfl ?_
  refine O.ex (Ex.move rfl) rfl ?_
  refine O.callF Try.call22 rfl rfl (CT.mono (refOf_ct (n := n) (a := a) ha (Holds.to (by assumption))) ?_)
  rintro _ w ⟨ho2, H⟩
  rw [← hk] at H
  refine O.callF Try.call17 rfl rfl (CT.mono (intsA_ct (xs := ofN k a) (l := ofN k a) (Holds.to (by assumption)) (by omega) (by omega)) ?_)
  rintro _ w ⟨rfl, H⟩
  refine O.ex (by first | exact Ex.notD rfl | exact Ex.not rfl) rfl ?_
  refine O.nil ?_
  refine hK5 _ _ _ ?_
  refine W.known_f rfl (by first | rfl | decide | exact decide_eq_false (fun hh => hh rfl) | (refine decide_eq_false ?_; omega) | exact decide_eq_false (fun hh => hh g1) | exact decide_eq_false (fun hh => hh g2) | exact decide_eq_false (fun hh => hh g3)) ?_
  refine W.skip ?_
  refine hK4 _ _ _ ?_
  refine W.seq (fun K6 hK6 => ?_)
  refine W.region ?_
  refine O.ex (Ex.move rfl) rfl ?_
  refine O.callF Try.call23 rfl rfl (CT.mono (rising_ct (n := n) (Holds.to (by assumption))) ?_)
  rintro _ w ⟨hr1, H⟩
  rename_i vr
  rw [← hk] at H
  refine O.ex (Ex.move rfl) rfl ?_
  refine O.callF Try.call24 rfl rfl (CT.mono (falling_ct (n := n) (Holds.to (by assumption))) ?_)
  rintro _ w ⟨hr2, H⟩
  rename_i vf
  rw [← hk] at H
  refine O.ex (Ex.move rfl) rfl ?_
  refine O.ex (Ex.move rfl) rfl ?_
  refine O.callF Try.call25 rfl rfl (CT.mono (turned_ct (n := n) (by_ := by_) b0 b1 (Holds.to (by assumption))) ?_)
  rintro _ w ⟨hr3, H⟩
  rename_i vt
  rw [← hk] at H
  refine O.ex (Ex.assign rfl) rfl ?_
  refine O.ex (Ex.assign rfl) rfl ?_
  refine O.ex (Ex.assign rfl) rfl ?_
  refine O.nil ?_
  refine hK6 _ _ _ ?_
  refine W.seq (fun K7 hK7 => ?_)
  refine W.seq (fun K8 hK8 => ?_)
  refine W.region ?_
  refine O.ex (Ex.move rfl) rfl ?_
  refine O.ex (by first | exact Ex.lenR Try.runUnderlying22 rfl | exact Ex.lenIn Try.runUnderlying22 rfl | exact Ex.lenL Try.runUnderlying22 rfl | exact Ex.len rfl Try.runUnderlying22 rfl) rfl ?_
  refine O.ex (Ex.move rfl) rfl ?_
  refine O.ex (Ex.neqI rfl rfl) rfl ?_
  refine O.ex (Ex.move rfl) rfl ?_
  refine O.known (t := 35) (c := false) rfl (by first | rfl | decide | exact decide_eq_false (fun hh => hh rfl) | (refine decide_eq_false ?_; omega) | exact decide_eq_false (fun hh => hh g1) | exact decide_eq_false (fun hh => hh g2) | exact decide_eq_false (fun hh => hh g3)) ?_
  refine O.guard_t rfl rfl ?_
  refine O.ex (Ex.move rfl) rfl ?_
  refine O.guard_t rfl rfl ?_
  refine O.ex (by first | exact Ex.lenR Try.runUnderlying22 rfl | exact Ex.lenIn Try.runUnderlying22 rfl | exact Ex.lenL Try.runUnderlying22 rfl | exact Ex.len rfl Try.runUnderlying22 rfl) rfl ?_
  refine O.guard_t rfl rfl ?_
  refine O.ex (Ex.move rfl) rfl ?_
  refine O.guard_t rfl rfl ?_
  refine O.ex (Ex.neqI rfl rfl) rfl ?_
  refine O.ex (Ex.pick_f rfl rfl) rfl ?_
  refine O.ex (Ex.move rfl) rfl ?_
  refine O.known (t := 41) (c := false) rfl (by first | rfl | decide | exact decide_eq_false (fun hh => hh rfl) | (refine decide_eq_false ?_; omega) | exact decide_eq_false (fun hh => hh g1) | exact decide_eq_false (fun hh => hh g2) | exact decide_eq_false (fun hh => hh g3)) ?_
  refine O.guard_t rfl rfl ?_
  refine O.ex (Ex.move rfl) rfl ?_
  refine O.guard_t rfl rfl ?_
  refine O.ex (by first | exact Ex.lenR Try.runUnderlying22 rfl | exact Ex.lenIn Try.runUnderlying22 rfl | exact Ex.lenL Try.runUnderlying22 rfl | exact Ex.len rfl Try.runUnderlying22 rfl) rfl ?_
  refine O.guard_t rfl rfl ?_
  refine O.ex (Ex.move rfl) rfl ?_
  refine O.guard_t rfl rfl ?_
  refine O.ex (Ex.neqI rfl rfl) rfl ?_
  refine O.ex (Ex.pick_f rfl rfl) rfl ?_
  refine O.nil ?_
  refine hK8 _ _ _ ?_
  refine W.known_f rfl (by first | rfl | decide | exact decide_eq_false (fun hh => hh rfl) | (refine decide_eq_false ?_; omega) | exact decide_eq_false (fun hh => hh g1) | exact decide_eq_false (fun hh => hh g2) | exact decide_eq_false (fun hh => hh g3)) ?_
  refine W.skip ?_
  refine hK7 _ _ _ ?_
  refine W.seq (fun K9 hK9 => ?_)
  refine W.seq (fun K10 hK10 => ?_)
  refine W.region ?_
  refine O.ex (Ex.assign rfl) rfl ?_
  refine O.nil ?_
  refine hK10 _ _ _ ?_
  refine W.block ?_
  have H : Holds w [arr 3 (Value.int .i64) vr (rng k), arr 3 (Value.int .i64) vf (fallL k), arr 3 (Value.int .i64) vt (turnL k by_), base w0] := Holds.to (by assumption)
  refine W.loop (σ := Nat) (fun i => [(2, .int .i64 by_), (7, .int .i64 (k : Int)), (8, vr), (9, vf), (10, vt), (11, .int .i64 (i : Int))]) (fun i ds w => ds = [] ∧ i ≤ k ∧ Holds w [arr 3 (Value.int .i64) vr (rng k), arr 3 (Value.int .i64) vf (fallL k), arr 3 (Value.int .i64) vt (turnL k by_), base w0]) (fun i => k - i) 0 ⟨rfl, rfl, rfl, rfl, rfl, rfl, trivial⟩ ⟨rfl, by omega, Holds.to (by assumption)⟩ ?_
  clear H
  rintro i _ w ⟨rfl, hi, H⟩
  refine W.seq (fun K11 hK11 => ?_)
  refine W.seq (fun K12 hK12 => ?_)
  refine W.region ?_
  refine O.ex (Ex.move rfl) rfl ?_
  refine O.ex (Ex.move rfl) rfl ?_
  refine O.ex (Ex.lss rfl rfl) rfl ?_
  refine O.nil ?_
  refine hK12 _ _ _ ?_
  first | refine W.cond_p rfl (fun hlt => ?_) (fun hge => ?_) | refine W.cond_b rfl (fun hlt => ?_) (fun hge => ?_)
  · refine W.skip ?_
    refine hK11 _ _ _ ?_
    refine W.seq (fun K13 hK13 => ?_)
    refine W.block ?_
    refine W.seq (fun K14 hK14 => ?_)
    have hik : i < k := by omega
    have g1 : (rng k).getD ((i : Nat) : Int).toNat default = (i : Int) := rng_get k i hik
    have g2 : (fallL k).getD ((i : Nat) : Int).toNat default = (k : Int) - 1 - (i : Int) := map_rng_get k _ i hik
    have g3 : (turnL k by_).getD ((i : Nat) : Int).toNat default = ((i : Int) + (by_.tmod k + k) % k) % k := map_rng_get k _ i hik
    obtain ⟨s0, s1⟩ := sh_rng (k : Int) by_ (by omega)
    unfold sh at s0 s1
    obtain ⟨r0, r1⟩ := tmod_rng by_ (k : Int) (by omega)
    refine W.drawTo _ (.take 0 (.take 1 (.take 2 (.take 3 (.take 4 (.take 5 (.take 6 (.take 7 (.take 8 (.take 9 (.take 10 (.take 11 (.take 12 (.take 13 (.take 14 (.take 15 (.take 16 (.take 17 (.take 18 (.take 19 (.take 20 (.take 21 (.take 22 (.take 23 (.take 24 (.take 25 (.take 26 (.take 27 (.take 28 (.take 29 (.take 30 (.take 31 (.take 32 (.take 33 (.take 34 .nil))))))))))))))))))))))))))))))))))) (mixed) (fun _ _ _ _ h => h) (by assumption) (PP.refl _) (by decide +kernel) (fun w H => ?_)
    refine OQ.ex rfl (fun w H => (Ex.move rfl)) rfl ?_
    refine OQ.ex rfl (fun w H => (Ex.move rfl)) rfl ?_
    refine OQ.ex rfl (fun w H => (by first | exact Ex.idxR Try.runUnderlying22 Try.sizeOf3 rfl rfl | exact Ex.idxIn Try.runUnderlying22 Try.sizeOf3 rfl rfl | exact Ex.idxS Try.runUnderlying22 Try.sizeOf3 rfl rfl | exact Ex.idx Try.runUnderlying22 Try.sizeOf3 rfl rfl (by omega) (by omega))) rfl ?_
    refine OQ.ex rfl (fun w H => (by first | exact Ex.loadR Try.isAgg3 rfl | exact Ex.loadIn1 Try.isAgg3 rfl (Holds.to (by assumption)) | exact Ex.loadP Try.isAgg3 rfl | exact Ex.loadMh Try.isAgg3 rfl | exact Ex.loadM Try.isAgg3 rfl | exact Ex.loadVc Try.isAgg3 rfl | exact Ex.loadQ Try.isAgg3 rfl)) rfl ?_
    refine OQ.ex rfl (fun w H => (Ex.move rfl)) rfl ?_
    refine OQ.ex rfl (fun w H => (Ex.neqI rfl rfl)) rfl ?_
    refine OQ.ex rfl (fun w H => (Ex.move rfl)) rfl ?_
    refine OQ.known (t := 58) (c := false) rfl (by first | rfl | decide | exact decide_eq_false (fun hh => hh rfl) | (refine decide_eq_false ?_; omega) | exact decide_eq_false (fun hh => hh g1) | exact decide_eq_false (fun hh => hh g2) | exact decide_eq_false (fun hh => hh g3)) ?_
    refine OQ.exT rfl rfl rfl (fun w H => (Ex.move rfl)) rfl ?_
    refine OQ.exT rfl rfl rfl (fun w H => (Ex.move rfl)) rfl ?_
    refine OQ.exT rfl rfl rfl (fun w H => (by first | exact Ex.idxR Try.runUnderlying22 Try.sizeOf3 rfl rfl | exact Ex.idxIn Try.runUnderlying22 Try.sizeOf3 rfl rfl | exact Ex.idxS Try.runUnderlying22 Try.sizeOf3 rfl rfl | exact Ex.idx Try.runUnderlying22 Try.sizeOf3 rfl rfl (by omega) (by omega))) rfl ?_
    refine OQ.exT rfl rfl rfl (fun w H => (by first | exact Ex.loadR Try.isAgg3 rfl | exact Ex.loadIn1 Try.isAgg3 rfl (Holds.to (by assumption)) | exact Ex.loadP Try.isAgg3 rfl | exact Ex.loadMh Try.isAgg3 rfl | exact Ex.loadM Try.isAgg3 rfl | exact Ex.loadVc Try.isAgg3 rfl | exact Ex.loadQ Try.isAgg3 rfl)) rfl ?_
    refine OQ.exT rfl rfl rfl (fun w H => (Ex.move rfl)) rfl ?_
    refine OQ.exT rfl rfl rfl (fun w H => (by first | exact Ex.subI rfl rfl | exact Ex.sub rfl rfl rfl)) rfl ?_
    refine OQ.exT rfl rfl rfl (fun w H => (Ex.move rfl)) rfl ?_
    refine OQ.exT rfl rfl rfl (fun w H => (by first | exact Ex.subI rfl rfl | exact Ex.sub rfl rfl rfl)) rfl ?_
    refine OQ.exT rfl rfl rfl (fun w H => (Ex.neqI rfl rfl)) rfl ?_
    refine OQ.ex rfl (fun w H => (Ex.pick_f rfl rfl)) rfl ?_
    refine OQ.ex rfl (fun w H => (Ex.move rfl)) rfl ?_
    refine OQ.known (t := 69) (c := false) rfl (by first | rfl | decide | exact decide_eq_false (fun hh => hh rfl) | (refine decide_eq_false ?_; omega) | exact decide_eq_false (fun hh => hh g1) | exact decide_eq_false (fun hh => hh g2) | exact decide_eq_false (fun hh => hh g3)) ?_
    refine OQ.exT rfl rfl rfl (fun w H => (Ex.move rfl)) rfl ?_
    refine OQ.exT rfl rfl rfl (fun w H => (Ex.move rfl)) rfl ?_
    refine OQ.exT rfl rfl rfl (fun w H => (by first | exact Ex.idxR Try.runUnderlying22 Try.sizeOf3 rfl rfl | exact Ex.idxIn Try.runUnderlying22 Try.sizeOf3 rfl rfl | exact Ex.idxS Try.runUnderlying22 Try.sizeOf3 rfl rfl | exact Ex.idx Try.runUnderlying22 Try.sizeOf3 rfl rfl (by omega) (by omega))) rfl ?_
    refine OQ.exT rfl rfl rfl (fun w H => (by first | exact Ex.loadR Try.isAgg3 rfl | exact Ex.loadIn1 Try.isAgg3 rfl (Holds.to (by assumption)) | exact Ex.loadP Try.isAgg3 rfl | exact Ex.loadMh Try.isAgg3 rfl | exact Ex.loadM Try.isAgg3 rfl | exact Ex.loadVc Try.isAgg3 rfl | exact Ex.loadQ Try.isAgg3 rfl)) rfl ?_
    refine OQ.exT rfl rfl rfl (fun w H => (Ex.move rfl)) rfl ?_
    refine OQ.exT rfl rfl rfl (fun w H => (Ex.move rfl)) rfl ?_
    refine OQ.exT rfl rfl rfl (fun w H => (Ex.move rfl)) rfl ?_
    refine OQ.exT rfl rfl rfl (fun w H => (Ex.rem (r := by_.tmod (k : Int)) rfl rfl (by omega) rfl)) rfl ?_
    refine OQ.exT rfl rfl rfl (fun w H => (Ex.move rfl)) rfl ?_
    refine OQ.exT rfl rfl rfl (fun w H => (by first | exact Ex.addI rfl rfl | exact Ex.add rfl rfl rfl)) rfl ?_
    refine OQ.exT rfl rfl rfl (fun w H => (Ex.move rfl)) rfl ?_
    refine OQ.exT rfl rfl rfl (fun w H => (by first | exact Ex.remI rfl rfl | exact Ex.rem rfl rfl (by omega) rfl)) rfl ?_
    refine OQ.exT rfl rfl rfl (fun w H => (by first | exact Ex.addI rfl rfl | exact Ex.add rfl rfl rfl)) rfl ?_
    refine OQ.exT rfl rfl rfl (fun w H => (Ex.move rfl)) rfl ?_
    refine OQ.exT rfl rfl rfl (fun w H => (by first | exact Ex.remI rfl rfl | exact Ex.rem rfl rfl (by omega) rfl)) rfl ?_
    refine OQ.exT rfl rfl rfl (fun w H => (Ex.neqI rfl rfl)) rfl ?_
    refine OQ.ex rfl (fun w H => (Ex.pick_f rfl rfl)) rfl ?_
    refine OQ.done ?_
    refine hK14 _ _ _ ?_
    refine W.known_f rfl (by first | rfl | decide | exact decide_eq_false (fun hh => hh rfl) | (refine decide_eq_false ?_; omega) | exact decide_eq_false (fun hh => hh g1) | exact decide_eq_false (fun hh => hh g2) | exact decide_eq_false (fun hh => hh g3)) ?_
    refine W.skip ?_
    refine hK13 _ _ _ ?_
    refine W.region ?_
    refine O.ex (Ex.move rfl) rfl ?_
    refine O.ex (by first | exact Ex.addI rfl rfl | exact Ex.add rfl rfl rfl) rfl ?_
    refine O.ex (Ex.assign rfl) rfl ?_
    refine O.nil ?_
    exact ⟨i + 1, ⟨rfl, rfl, rfl, rfl, rfl, rfl, trivial⟩, ⟨rfl, by omega, Holds.to (by assumption)⟩, by omega⟩
  · refine W.exit ?_
    refine hK9 _ _ _ ?_
    refine W.seq (fun K15 hK15 => ?_)
    refine W.region ?_
    refine O.ex (Ex.assign rfl) rfl ?_
    refine O.nil ?_
    refine hK15 _ _ _ ?_
    refine W.ret ?_
    try dsimp only [thenQ, blockQ, retQ]
    first | refine ⟨_, ⟨_, _, rfl, rfl, rfl⟩, ?_⟩ | (refine retD_mark ?_; intro w H; refine ⟨_, ⟨_, _, rfl, rfl, rfl⟩, ?_⟩) | (refine retD_mark2 ?_; intro w H; refine ⟨_, ⟨_, _, rfl, rfl, rfl⟩, ?_⟩)
    exact ⟨rfl, Holds.base_below (L := []) (Holds.to (by assumption))⟩
theorem permOf_row {w0 : World} {n m by_ : Int} (hn : (Lit.int .i64 n).wf = true) (hm : (Lit.int .u64 m).wf = true) (hb : (Lit.int .i64 by_).wf = true) :
    CT Try.prog 6 [.int .i64 n, .int .u64 m, .int .i64 by_] w0 fun u w' => u = .bool true ∧ RowKit.Below w0.heap.size w0 w' := permOf_ct hm hb
end Go.Proofs.Ythpmohkmjfhmmaa
