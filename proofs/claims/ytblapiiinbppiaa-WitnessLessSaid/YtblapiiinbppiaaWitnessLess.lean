import Derived.Test.YtblapiiinbppiaaWit6
import Derived.Test.YtblapiiinbppiaaWitLaw3
import Derived.Test.YtblapiiinbppiaaRrCut
namespace Go.Proofs.Ytblapiiinbppiaa
--ARR
open Go.Rr Go Hp Wt
set_option linter.unusedVariables false
theorem less_len {n : Int} {c : Int → Int → Int} {s0 wo : Nat} {few : Int} {j1 j2 : Nat} (hg : Good n c) (f0 : 0 ≤ few) (f1 : few ≤ 30) (h1 : to n.toNat c s0 wo 64 4611686018427387906 j1) (t1 : stopP n.toNat c s0 wo 64 4611686018427387906 j1) (h2 : to n.toNat c s0 wo few 4611686018427387906 j2) (t2 : stopP n.toNat c s0 wo few 4611686018427387906 j2) :
    j2 ≤ j1 ∧ (j2 : Int) = min (j1 : Int) few := by
  have n2 := hg.n2
  have hle := to_le_of (a := few) (b := 64) (by omega) h2 h1 t1
  have l1 := to_len h1
  have l2 := to_len h2
  have e1 := to_le hg h1
  refine ⟨hle, ?_⟩
  have hf : (j2 : Int) ≤ few := by
    cases j2 with
    | zero => omega
    | succ k =>
      have h3 := h2 k (by omega)
      have l3 := to_len (fun i hi => h2 i (by omega) : to n.toNat c s0 wo few 4611686018427387906 k)
      have : ¬ few ≤ (st n.toNat c s0 wo k).length := fun h => h3 (.inl h)
      omega
  rcases t2 with h | h
  · omega
  · have hno : stopP n.toNat c s0 wo 64 4611686018427387906 j2 := .inr h
    have hge : j1 ≤ j2 := Nat.le_of_not_lt fun hlt => h1 j2 hlt hno
    omega
theorem sub_zero {n : Int} {c : Int → Int → Int} {s0 wo : Nat} {j1 j2 T1 T2 : Nat} (hle : j2 ≤ j1) (h1 : Tq (TQ n.toNat c wo (st n.toNat c s0 wo j1)) T1) (h2 : Tq (TQ n.toNat c wo (st n.toNat c s0 wo j2)) T2) : T2 &&& (18446744073709551615 - T1) = 0 := by
  refine set_eq _ _ (and_lt _ _ h2.1) (by decide) fun i hi => ?_
  rw [andNot_bit _ _ _ h1.1 hi, Nat.zero_testBit]
  cases e : T2.testBit i with
  | false => rfl
  | true =>
    have h3 := (h2.2 i hi).1 e
    obtain ⟨l, el⟩ := st_mono (N := n.toNat) (c := c) (s0 := s0) (wo := wo) j1 hle
    have h4 : T1.testBit i = true := (h1.2 i hi).2 (by
      rw [el]
      refine ⟨h3.1, ?_⟩
      rcases h3.2 with h5 | ⟨h5, p, hp, h6⟩
      · left; unfold isIn at *; rw [List.map_append]; exact List.mem_append_left _ h5
      · exact .inr ⟨h5, p, List.mem_append_left _ hp, h6⟩)
    rw [h4]; rfl
theorem part_take {N : Nat} {c : Int → Int → Int} {s0 wo i j : Nat} (h : i ≤ j) : (st N c s0 wo i).map Prod.fst = ((st N c s0 wo j).map Prod.fst).take (st N c s0 wo i).length := by
  obtain ⟨l, e⟩ := st_mono (N := N) (c := c) (s0 := s0) (wo := wo) j h
  rw [e, List.map_append, List.take_append_of_le_length (by rw [List.length_map]; omega), List.take_of_length_le (by rw [List.length_map]; omega)]
set_option maxHeartbeats 4000000 in
theorem witnessLess_ct {w0 : World} {q z few : Int} {wi : Nat} {lv : Value} {l : List Step} (hq : (Lit.int .u8 q).wf = true) (hx : SlIn w0 3 Step.enc lv l) (hl : l.length ≤ 9223372036854775807) (z0 : 0 ≤ z) (z1 : z ≤ 255) (hwi : wi < 18446744073709551616) (f0 : 0 ≤ few) (f1 : few ≤ 255) :
    CT Try.prog 10 [.int .u8 q, lv, .int .u8 z, .int .u64 (wi : Int), .int .u8 few] w0 fun x w' => x = .bool true ∧ RowKit.Below w0.heap.size w0 w' := by
  have H := Holds.base_refl w0
  refine CT.enter (N := 121) Try.func10 rfl rfl rfl rfl ?_
  refine W.seq (fun K0 hK0 => ?_)
  refine W.region ?_
  refine O.ex (Ex.assign rfl) rfl ?_
  refine O.nil ?_
  refine hK0 _ _ _ ?_
  refine W.seq (fun K1 hK1 => ?_)
  refine W.seq (fun K2 hK2 => ?_)
  refine W.region ?_
  refine O.callF Try.call32 rfl rfl (CT.mono (awake13_ct (Holds.to (by assumption))) ?_)
  rintro _ w ⟨rfl, H⟩
  refine O.ex (by first | exact Ex.notD rfl | exact Ex.not rfl) rfl ?_
  refine O.nil ?_
  refine hK2 _ _ _ ?_
  refine W.known_f rfl (by first | exact decide_eq_false (fun hh => hh k0) | exact decide_eq_false (fun hh => hh k1) | exact decide_eq_false k2 | rfl | decide) ?_
  refine W.skip ?_
  refine hK1 _ _ _ ?_
  refine W.seq (fun K3 hK3 => ?_)
  refine W.region ?_
  refine O.ex (Ex.move rfl) rfl ?_
  refine O.ex (Ex.move rfl) rfl ?_
  refine O.callF Try.call16 rfl rfl (CT.mono (made_ct hq hx hl (Holds.to (by assumption))) ?_)
  rintro _ w ⟨m, r, n, c, hg, rfl, H⟩
  have n1 := hg.n1
  have n2 := hg.n2
  refine O.ex (Ex.move rfl) rfl ?_
  refine O.ex (Ex.extract rfl rfl) rfl ?_
  refine O.ex (Ex.extract rfl rfl) rfl ?_
  refine O.ex (Ex.assign rfl) rfl ?_
  refine O.ex (Ex.assign rfl) rfl ?_
  refine O.nil ?_
  refine hK3 _ _ _ ?_
  refine W.seq (fun K4 hK4 => ?_)
  refine W.seq (fun K5 hK5 => ?_)
  refine W.region ?_
  refine O.ex (Ex.move rfl) rfl ?_
  refine O.ex (Ex.nilEq Try.runUnderlying25 rfl rfl) rfl ?_
  refine O.nil ?_
  refine hK5 _ _ _ ?_
  refine W.known_f rfl (by first | exact decide_eq_false (fun hh => hh k0) | exact decide_eq_false (fun hh => hh k1) | exact decide_eq_false k2 | rfl | decide) ?_
  refine W.skip ?_
  refine hK4 _ _ _ ?_
  refine W.seq (fun K6 hK6 => ?_)
  refine W.region ?_
  refine O.ex (Ex.move rfl) rfl ?_
  refine O.ex (by first | exact Ex.convToI Try.runUnderlying5 Try.runUnderlying3 rfl | exact Ex.convW Try.runUnderlying5 Try.runUnderlying3 rfl) rfl ?_
  refine O.ex (Ex.move rfl) rfl ?_
  refine O.ex (by first | exact Ex.nilPtr rfl | exact Ex.nilFunc rfl | exact Ex.nilYield rfl) rfl ?_
  refine O.ex (by first | exact Ex.field0 fld32_0 rfl | exact Ex.field fld32_0 rfl | exact Ex.fieldS fld32_0 rfl) rfl ?_
  have H := rh_open.1 (Holds.to (M := Rh r n c :: Mh m n c :: base w0 :: []) (by assumption))
  refine O.ex (by first | exact Ex.loadMh Try.isAgg3 rfl | exact Ex.loadP Try.isAgg3 rfl | exact Ex.loadM Try.isAgg3 rfl | exact Ex.loadIn1 Try.isAgg3 rfl (Holds.to (by assumption)) | exact Ex.loadVc Try.isAgg3 rfl | exact Ex.loadR Try.isAgg3 rfl | exact Ex.loadQ Try.isAgg3 rfl) rfl ?_
  refine O.ex (by first | exact Ex.remI rfl rfl | exact Ex.rem rfl rfl (by omega) rfl) rfl ?_
  refine O.ex (Ex.assign rfl) rfl ?_
  refine O.nil ?_
  refine hK6 _ _ _ ?_
  refine W.seq (fun K7 hK7 => ?_)
  refine W.region ?_
  have H := Holds.to (M := Mh m n c :: base w0 :: []) H
  obtain ⟨s, hs⟩ : ∃ s, s = z % n := ⟨_, rfl⟩
  rw [← hs]
  have hs0 : 0 ≤ s := by rw [hs]; exact Int.emod_nonneg _ (by omega)
  have hs1 : s < n := by rw [hs]; exact Int.emod_lt_of_pos _ (by omega)
  refine O.ex (Ex.move rfl) rfl ?_
  refine O.ex (Ex.move rfl) rfl ?_
  refine O.callF Try.call41 rfl rfl (CT.mono (without_ct (Holds.to (by assumption)) hwi) ?_)
  rintro _ w ⟨rfl, H⟩
  refine O.ex (Ex.assign rfl) rfl ?_
  refine O.nil ?_
  refine hK7 _ _ _ ?_
  refine W.seq (fun K8 hK8 => ?_)
  refine W.region ?_
  have hwo : wi &&& (18446744073709551615 - bitN s) < 18446744073709551616 := and_lt _ _ hwi
  have hout : inS (wi &&& (18446744073709551615 - bitN s)) s = false := by
    unfold inS
    rw [without_bit _ _ _ (by omega), Int.toNat_of_nonneg hs0]; simp
  obtain ⟨wo, ewo⟩ : ∃ wo, wo = wi &&& (18446744073709551615 - bitN s) := ⟨_, rfl⟩
  rw [← ewo] at hwo hout ⊢
  refine O.ex (Ex.move rfl) rfl ?_
  refine O.ex (Ex.move rfl) rfl ?_
  refine O.ex (Ex.move rfl) rfl ?_
  refine O.callF Try.call33 rfl rfl (CT.mono (wfind_ct hg hwo (Holds.to (by assumption))) ?_)
  rintro _ w (⟨hno, -⟩ | ⟨-, j1, T1, sv, dv, hto, hst, hT, rfl, hv1, hd1, H⟩)
  · exact absurd ⟨⟨hs0, hs1⟩, hout⟩ hno
  refine O.ex (Ex.move rfl) rfl ?_
  refine O.ex (Ex.extract rfl rfl) rfl ?_
  refine O.ex (Ex.extract rfl rfl) rfl ?_
  refine O.allocP Try.zeroValue60 (fun b15 w H => ?_)
  refine O.storeAggP Try.sizeOf60 rfl rfl rfl (all3 hv1 hd1 rfl) (fun w H => ?_)
  refine O.ex (Ex.assign rfl) rfl ?_
  refine O.nil ?_
  refine hK8 _ _ _ ?_
  refine W.seq (fun K9 hK9 => ?_)
  refine W.region ?_
  refine O.ex (Ex.move rfl) rfl ?_
  refine O.ex (Ex.move rfl) rfl ?_
  refine O.ex (Ex.move rfl) rfl ?_
  refine O.ex (Ex.move rfl) rfl ?_
  refine O.ex (by first | exact Ex.convToI Try.runUnderlying5 Try.runUnderlying3 rfl | exact Ex.convW Try.runUnderlying5 Try.runUnderlying3 rfl) rfl ?_
  refine O.ex (by first | exact Ex.remI rfl rfl | exact Ex.rem rfl rfl (by omega) rfl) rfl ?_
  refine O.callF Try.call33 rfl rfl (CT.mono (wfind_ct hg hwo (Holds.to (by assumption))) ?_)
  rintro _ w (⟨hno, -⟩ | ⟨-, j2, T2, sv2, dv2, hto2, hst2, hT2, rfl, hv2, hd2, H⟩)
  · exact absurd ⟨⟨hs0, hs1⟩, hout⟩ hno
  obtain ⟨hj, hmin⟩ := less_len hg (show 0 ≤ few % 30 by omega) (by omega) hto hst hto2 hst2
  have hsub := sub_zero hj hT hT2
  have htk := part_take (N := n.toNat) (c := c) (s0 := s.toNat) (wo := wo) hj
  have hsrt := st_sorted (s0 := s.toNat) (wo := wo) hg j1
  have hp1 := to_len hto
  have hp2 := to_len hto2
  have e1 := to_le hg hto
  obtain ⟨P, hP⟩ : ∃ P, P = st n.toNat c s.toNat wo j1 := ⟨_, rfl⟩
  obtain ⟨P2, hP2⟩ : ∃ P, P = st n.toNat c s.toNat wo j2 := ⟨_, rfl⟩
  rw [← hP, ← hP2] at H htk
  rw [← hP] at hp1
  simp only [← hP] at hsrt
  rw [← hP2] at hp2
  have l1 : (P.map Prod.fst).length = P.length := List.length_map _
  have l2 : (P.map Prod.snd).length = P.length := List.length_map _
  have l3 : (P2.map Prod.fst).length = P2.length := List.length_map _
  have k0 : ((P.map Prod.fst).length : Int) = (P.map Prod.snd).length := by omega
  have k1 : ((P2.map Prod.fst).length : Int) = min ((P.map Prod.fst).length : Int) (few % 30) := by omega
  refine O.ex (Ex.move rfl) rfl ?_
  refine O.ex (Ex.extract rfl rfl) rfl ?_
  refine O.ex (Ex.extract rfl rfl) rfl ?_
  refine O.allocP Try.zeroValue60 (fun b17 w H => ?_)
  refine O.storeAggP Try.sizeOf60 rfl rfl rfl (all3 hv2 hd2 rfl) (fun w H => ?_)
  refine O.ex (Ex.assign rfl) rfl ?_
  refine O.nil ?_
  refine hK9 _ _ _ ?_
  refine W.seq (fun K10 hK10 => ?_)
  refine W.seq (fun K11 hK11 => ?_)
  refine W.region ?_
  refine O.ex (Ex.move rfl) rfl ?_
  refine O.ex (Ex.neqI rfl rfl) rfl ?_
  refine O.ex (Ex.move rfl) rfl ?_
  refine O.known (t := 59) (c := false) rfl (by first | exact decide_eq_false (fun hh => hh k0) | exact decide_eq_false (fun hh => hh k1) | exact decide_eq_false k2 | rfl | decide) ?_
  refine O.guard_t rfl rfl ?_
  refine O.ex (Ex.move rfl) rfl ?_
  refine O.guard_t rfl rfl ?_
  refine O.ex (Ex.neqI rfl rfl) rfl ?_
  refine O.ex (Ex.pick_f rfl rfl) rfl ?_
  refine O.ex (Ex.move rfl) rfl ?_
  refine O.known (t := 63) (c := false) rfl (by first | exact decide_eq_false (fun hh => hh k0) | exact decide_eq_false (fun hh => hh k1) | exact decide_eq_false k2 | rfl | decide) ?_
  refine O.guard_t rfl rfl ?_
  refine O.ex (by first | exact Ex.field0 fld60_0 rfl | exact Ex.field fld60_0 rfl | exact Ex.fieldS fld60_0 rfl) rfl ?_
  refine O.guard_t rfl rfl ?_
  refine O.ex (by first | exact Ex.loadMh Try.isAgg51 rfl | exact Ex.loadP Try.isAgg51 rfl | exact Ex.loadM Try.isAgg51 rfl | exact Ex.loadIn1 Try.isAgg51 rfl (Holds.to (by assumption)) | exact Ex.loadVc Try.isAgg51 rfl | exact Ex.loadR Try.isAgg51 rfl | exact Ex.loadQ Try.isAgg51 rfl) rfl ?_
  refine O.guard_t rfl rfl ?_
  refine O.ex (by first | exact Ex.lenR Try.runUnderlying51 rfl | exact Ex.lenIn Try.runUnderlying51 rfl | exact Ex.lenL Try.runUnderlying51 rfl | exact Ex.len rfl Try.runUnderlying51 rfl) rfl ?_
  refine O.guard_t rfl rfl ?_
  refine O.ex (by first | exact Ex.field0 fld60_1 rfl | exact Ex.field fld60_1 rfl | exact Ex.fieldS fld60_1 rfl) rfl ?_
  refine O.guard_t rfl rfl ?_
  refine O.ex (by first | exact Ex.loadMh Try.isAgg51 rfl | exact Ex.loadP Try.isAgg51 rfl | exact Ex.loadM Try.isAgg51 rfl | exact Ex.loadIn1 Try.isAgg51 rfl (Holds.to (by assumption)) | exact Ex.loadVc Try.isAgg51 rfl | exact Ex.loadR Try.isAgg51 rfl | exact Ex.loadQ Try.isAgg51 rfl) rfl ?_
  refine O.guard_t rfl rfl ?_
  refine O.ex (by first | exact Ex.lenR Try.runUnderlying51 rfl | exact Ex.lenIn Try.runUnderlying51 rfl | exact Ex.lenL Try.runUnderlying51 rfl | exact Ex.len rfl Try.runUnderlying51 rfl) rfl ?_
  refine O.guard_t rfl rfl ?_
  refine O.ex (Ex.neqI rfl rfl) rfl ?_
  refine O.ex (Ex.pick_f rfl rfl) rfl ?_
  refine O.ex (Ex.move rfl) rfl ?_
  refine O.known (t := 72) (c := false) rfl (by first | exact decide_eq_false (fun hh => hh k0) | exact decide_eq_false (fun hh => hh k1) | exact decide_eq_false k2 | rfl | decide) ?_
  refine O.guard_t rfl rfl ?_
  refine O.ex (by first | exact Ex.field0 fld60_0 rfl | exact Ex.field fld60_0 rfl | exact Ex.fieldS fld60_0 rfl) rfl ?_
  refine O.guard_t rfl rfl ?_
  refine O.ex (by first | exact Ex.loadMh Try.isAgg51 rfl | exact Ex.loadP Try.isAgg51 rfl | exact Ex.loadM Try.isAgg51 rfl | exact Ex.loadIn1 Try.isAgg51 rfl (Holds.to (by assumption)) | exact Ex.loadVc Try.isAgg51 rfl | exact Ex.loadR Try.isAgg51 rfl | exact Ex.loadQ Try.isAgg51 rfl) rfl ?_
  refine O.guard_t rfl rfl ?_
  refine O.ex (by first | exact Ex.lenR Try.runUnderlying51 rfl | exact Ex.lenIn Try.runUnderlying51 rfl | exact Ex.lenL Try.runUnderlying51 rfl | exact Ex.len rfl Try.runUnderlying51 rfl) rfl ?_
  refine O.guard_t rfl rfl ?_
  refine O.ex (by first | exact Ex.field0 fld60_0 rfl | exact Ex.field fld60_0 rfl | exact Ex.fieldS fld60_0 rfl) rfl ?_
  refine O.guard_t rfl rfl ?_
  refine O.ex (by first | exact Ex.loadMh Try.isAgg51 rfl | exact Ex.loadP Try.isAgg51 rfl | exact Ex.loadM Try.isAgg51 rfl | exact Ex.loadIn1 Try.isAgg51 rfl (Holds.to (by assumption)) | exact Ex.loadVc Try.isAgg51 rfl | exact Ex.loadR Try.isAgg51 rfl | exact Ex.loadQ Try.isAgg51 rfl) rfl ?_
  refine O.guard_t rfl rfl ?_
  refine O.ex (by first | exact Ex.lenR Try.runUnderlying51 rfl | exact Ex.lenIn Try.runUnderlying51 rfl | exact Ex.lenL Try.runUnderlying51 rfl | exact Ex.len rfl Try.runUnderlying51 rfl) rfl ?_
  refine O.guard_t rfl rfl ?_
  refine O.ex (Ex.move rfl) rfl ?_
  refine O.guard_t rfl rfl ?_
  refine O.ex (by first | exact Ex.convToI Try.runUnderlying5 Try.runUnderlying3 rfl | exact Ex.convW Try.runUnderlying5 Try.runUnderlying3 rfl) rfl ?_
  refine O.guard_t rfl rfl ?_
  refine O.ex (by first | exact Ex.remI rfl rfl | exact Ex.rem rfl rfl (by omega) rfl) rfl ?_
  refine O.guard_t rfl rfl ?_
  refine O.ex (Ex.minI rfl rfl) rfl ?_
  refine O.guard_t rfl rfl ?_
  refine O.ex (Ex.neqI rfl rfl) rfl ?_
  refine O.ex (Ex.pick_f rfl rfl) rfl ?_
  refine O.nil ?_
  refine hK11 _ _ _ ?_
  refine W.known_f rfl (by first | exact decide_eq_false (fun hh => hh k0) | exact decide_eq_false (fun hh => hh k1) | exact decide_eq_false k2 | rfl | decide) ?_
  refine W.skip ?_
  refine hK10 _ _ _ ?_
  refine W.seq (fun K12 hK12 => ?_)
  refine W.seq (fun K13 hK13 => ?_)
  refine W.region ?_
  refine O.ex (Ex.assign rfl) rfl ?_
  refine O.nil ?_
  refine hK13 _ _ _ ?_
  refine W.block ?_
  have H : Holds w [pt b15 (.cells #[sv, dv, .int .u64 (T1 : Int)] 60 (0, 0)), pt b17 (.cells #[sv2, dv2, .int .u64 (T2 : Int)] 60 (0, 0)), arr 3 (Value.int .i64) dv (P.map Prod.snd), arr 3 (Value.int .i64) sv (P.map Prod.fst), arr 3 (Value.int .i64) sv2 (P2.map Prod.fst), base w0] := Holds.to (by assumption)
  refine W.loop (σ := Nat) (fun i => [(15, .pointer (some ⟨b15, 0, none⟩)), (17, .pointer (some ⟨b17, 0, none⟩)), (19, .int .i64 ((i : Int) + 1))]) (fun i ds w => ds = [] ∧ i ≤ P.length ∧ Holds w [pt b15 (.cells #[sv, dv, .int .u64 (T1 : Int)] 60 (0, 0)), pt b17 (.cells #[sv2, dv2, .int .u64 (T2 : Int)] 60 (0, 0)), arr 3 (Value.int .i64) dv (P.map Prod.snd), arr 3 (Value.int .i64) sv (P.map Prod.fst), arr 3 (Value.int .i64) sv2 (P2.map Prod.fst), base w0]) (fun i => P.length - i) 0 ⟨rfl, rfl, rfl, trivial⟩ ⟨rfl, by omega, Holds.to (by assumption)⟩ ?_
  clear H
  rintro i _ w ⟨rfl, hi, H⟩
  refine W.seq (fun K14 hK14 => ?_)
  refine W.seq (fun K15 hK15 => ?_)
  refine W.region ?_
  refine O.ex (Ex.move rfl) rfl ?_
  refine O.ex (by first | exact Ex.field0 fld60_1 rfl | exact Ex.field fld60_1 rfl | exact Ex.fieldS fld60_1 rfl) rfl ?_
  refine O.ex (by first | exact Ex.loadMh Try.isAgg51 rfl | exact Ex.loadP Try.isAgg51 rfl | exact Ex.loadM Try.isAgg51 rfl | exact Ex.loadIn1 Try.isAgg51 rfl (Holds.to (by assumption)) | exact Ex.loadVc Try.isAgg51 rfl | exact Ex.loadR Try.isAgg51 rfl | exact Ex.loadQ Try.isAgg51 rfl) rfl ?_
  refine O.ex (by first | exact Ex.lenR Try.runUnderlying51 rfl | exact Ex.lenIn Try.runUnderlying51 rfl | exact Ex.lenL Try.runUnderlying51 rfl | exact Ex.len rfl Try.runUnderlying51 rfl) rfl ?_
  refine O.ex (Ex.lss rfl rfl) rfl ?_
  refine O.nil ?_
  refine hK15 _ _ _ ?_
  first | refine W.cond_p rfl (fun hlt => ?_) (fun hge => ?_) | refine W.cond_b rfl (fun hlt => ?_) (fun hge => ?_)
  · refine W.skip ?_
    refine hK14 _ _ _ ?_
    refine W.seq (fun K16 hK16 => ?_)
    refine W.block ?_
    refine W.seq (fun K17 hK17 => ?_)
    have hil : i + 1 < P.length := by omega
    have k2 : ¬ (P.map Prod.snd).getD ((i : Int) + 1).toNat default < (P.map Prod.snd).getD ((i : Int) + 1 - 1).toNat default := by
      rw [show ((i : Int) + 1).toNat = i + 1 by omega, show ((i : Int) + 1 - 1).toNat = i by omega, map_getD P _ hil, map_getD P _ (show i < P.length by omega)]
      have := hsrt i (i + 1) (by omega) hil
      omega
    refine W.drawTo _ (.take 0 (.take 1 (.take 2 (.take 3 (.take 4 (.take 5 (.take 6 (.take 7 (.take 8 (.take 9 (.take 10 (.take 11 .nil)))))))))))) (mixed) (fun _ _ _ _ h => h) (by assumption) (PP.refl _) (by decide +kernel) (fun w H => ?_)
    refine OQ.ex rfl (fun w H => (by first | exact Ex.field0 fld60_1 rfl | exact Ex.field fld60_1 rfl | exact Ex.fieldS fld60_1 rfl)) rfl ?_
    refine OQ.ex rfl (fun w H => (by first | exact Ex.loadMh Try.isAgg51 rfl | exact Ex.loadP Try.isAgg51 rfl | exact Ex.loadM Try.isAgg51 rfl | exact Ex.loadIn1 Try.isAgg51 rfl (Holds.to (by assumption)) | exact Ex.loadVc Try.isAgg51 rfl | exact Ex.loadR Try.isAgg51 rfl | exact Ex.loadQ Try.isAgg51 rfl)) rfl ?_
    refine OQ.ex rfl (fun w H => (Ex.move rfl)) rfl ?_
    refine OQ.ex rfl (fun w H => (by first | exact Ex.idxR Try.runUnderlying51 Try.sizeOf3 rfl rfl | exact Ex.idxIn Try.runUnderlying51 Try.sizeOf3 rfl rfl | exact Ex.idxS Try.runUnderlying51 Try.sizeOf3 rfl rfl | exact Ex.idx Try.runUnderlying51 Try.sizeOf3 rfl rfl (by omega) (by omega))) rfl ?_
    refine OQ.ex rfl (fun w H => (by first | exact Ex.loadR Try.isAgg3 rfl | exact Ex.loadIn1 Try.isAgg3 rfl (Holds.to (by assumption)) | exact Ex.loadP Try.isAgg3 rfl | exact Ex.loadMh Try.isAgg3 rfl | exact Ex.loadM Try.isAgg3 rfl | exact Ex.loadVc Try.isAgg3 rfl | exact Ex.loadQ Try.isAgg3 rfl)) rfl ?_
    refine OQ.ex rfl (fun w H => (by first | exact Ex.field0 fld60_1 rfl | exact Ex.field fld60_1 rfl | exact Ex.fieldS fld60_1 rfl)) rfl ?_
    refine OQ.ex rfl (fun w H => (by first | exact Ex.loadMh Try.isAgg51 rfl | exact Ex.loadP Try.isAgg51 rfl | exact Ex.loadM Try.isAgg51 rfl | exact Ex.loadIn1 Try.isAgg51 rfl (Holds.to (by assumption)) | exact Ex.loadVc Try.isAgg51 rfl | exact Ex.loadR Try.isAgg51 rfl | exact Ex.loadQ Try.isAgg51 rfl)) rfl ?_
    refine OQ.ex rfl (fun w H => (Ex.move rfl)) rfl ?_
    refine OQ.ex rfl (fun w H => (by first | exact Ex.subI rfl rfl | exact Ex.sub rfl rfl rfl)) rfl ?_
    refine OQ.ex rfl (fun w H => (by first | exact Ex.idxR Try.runUnderlying51 Try.sizeOf3 rfl rfl | exact Ex.idxIn Try.runUnderlying51 Try.sizeOf3 rfl rfl | exact Ex.idxS Try.runUnderlying51 Try.sizeOf3 rfl rfl | exact Ex.idx Try.runUnderlying51 Try.sizeOf3 rfl rfl (by omega) (by omega))) rfl ?_
    refine OQ.ex rfl (fun w H => (by first | exact Ex.loadR Try.isAgg3 rfl | exact Ex.loadIn1 Try.isAgg3 rfl (Holds.to (by assumption)) | exact Ex.loadP Try.isAgg3 rfl | exact Ex.loadMh Try.isAgg3 rfl | exact Ex.loadM Try.isAgg3 rfl | exact Ex.loadVc Try.isAgg3 rfl | exact Ex.loadQ Try.isAgg3 rfl)) rfl ?_
    refine OQ.ex rfl (fun w H => (Ex.lss rfl rfl)) rfl ?_
    refine OQ.done ?_
    refine hK17 _ _ _ ?_
    refine W.known_f rfl (by first | exact decide_eq_false (fun hh => hh k0) | exact decide_eq_false (fun hh => hh k1) | exact decide_eq_false k2 | rfl | decide) ?_
    refine W.skip ?_
    refine hK16 _ _ _ ?_
    refine W.region ?_
    refine O.ex (Ex.move rfl) rfl ?_
    refine O.ex (by first | exact Ex.addI rfl rfl | exact Ex.add rfl rfl rfl) rfl ?_
    refine O.ex (Ex.assign rfl) rfl ?_
    refine O.nil ?_
    exact ⟨i + 1, ⟨rfl, rfl, rfl, trivial⟩, ⟨rfl, by omega, Holds.to (by assumption)⟩, by omega⟩
  · refine W.exit ?_
    refine hK12 _ _ _ ?_
    refine W.seq (fun K18 hK18 => ?_)
    have hT1l := hT.1
    have hT2l := hT2.1
    obtain ⟨a2, c2, ea2⟩ := arr_len (T := 3) (e := Value.int .i64) (v := sv2) (xs := P2.map Prod.fst) (Holds.to (by assumption))
    obtain ⟨a1, c1, ea1, hc1⟩ := arr_cap (T := 3) (e := Value.int .i64) (v := sv) (xs := P.map Prod.fst) (Holds.to (by assumption))
    subst ea1 ea2
    refine W.drawTo (pt b15 _ :: pt b17 _ :: []) (.take 0 (.take 1 (.take 2 (.take 3 (.take 4 (.take 5 (.take 6 (.take 7 (.one 8 (.take 9 (.take 10 (.take 11 (.take 12 (.take 13 (.take 14 (.take 15 (.take 16 (.take 17 .nil)))))))))))))))))) (mixed) (fun _ _ _ _ h => h) (by assumption) PP.auto (by decide +kernel) (fun w H => ?_)
    refine OQ.ex rfl (fun w H => (by first | exact Ex.field0 fld60_0 rfl | exact Ex.field fld60_0 rfl | exact Ex.fieldS fld60_0 rfl)) rfl ?_
    refine OQ.ex rfl (fun w H => (by first | exact Ex.loadMh Try.isAgg51 rfl | exact Ex.loadP Try.isAgg51 rfl | exact Ex.loadM Try.isAgg51 rfl | exact Ex.loadIn1 Try.isAgg51 rfl (Holds.to (by assumption)) | exact Ex.loadVc Try.isAgg51 rfl | exact Ex.loadR Try.isAgg51 rfl | exact Ex.loadQ Try.isAgg51 rfl)) rfl ?_
    refine OQ.ex rfl (fun w H => (by first | exact Ex.field0 fld60_0 rfl | exact Ex.field fld60_0 rfl | exact Ex.fieldS fld60_0 rfl)) rfl ?_
    refine OQ.ex rfl (fun w H => (by first | exact Ex.loadMh Try.isAgg51 rfl | exact Ex.loadP Try.isAgg51 rfl | exact Ex.loadM Try.isAgg51 rfl | exact Ex.loadIn1 Try.isAgg51 rfl (Holds.to (by assumption)) | exact Ex.loadVc Try.isAgg51 rfl | exact Ex.loadR Try.isAgg51 rfl | exact Ex.loadQ Try.isAgg51 rfl)) rfl ?_
    refine OQ.ex rfl (fun w H => (by first | exact Ex.field0 fld60_0 rfl | exact Ex.field fld60_0 rfl | exact Ex.fieldS fld60_0 rfl)) rfl ?_
    refine OQ.ex rfl (fun w H => (by first | exact Ex.loadMh Try.isAgg51 rfl | exact Ex.loadP Try.isAgg51 rfl | exact Ex.loadM Try.isAgg51 rfl | exact Ex.loadIn1 Try.isAgg51 rfl (Holds.to (by assumption)) | exact Ex.loadVc Try.isAgg51 rfl | exact Ex.loadR Try.isAgg51 rfl | exact Ex.loadQ Try.isAgg51 rfl)) rfl ?_
    refine OQ.ex rfl (fun w H => (by first | exact Ex.lenR Try.runUnderlying51 rfl | exact Ex.lenIn Try.runUnderlying51 rfl | exact Ex.lenL Try.runUnderlying51 rfl | exact Ex.len rfl Try.runUnderlying51 rfl)) rfl ?_
    refine OQ.ex rfl (fun w H => (Ex.sliceHiN Try.runUnderlying51 Try.sizeOf3 rfl rfl (by omega) (by omega))) rfl ?_
    refine OQ.step rfl ?_
    have H := arr_take (hi := ((P2.map Prod.fst).length : Int).toNat) (Holds.to (M := arr 3 (Value.int .i64) (.slice a1 (P.map Prod.fst).length c1) (P.map Prod.fst) :: arr 3 (Value.int .i64) (.slice a2 (P2.map Prod.fst).length c2) (P2.map Prod.fst) :: pt b15 (.cells #[.slice a1 (P.map Prod.fst).length c1, dv, .int .u64 (T1 : Int)] 60 (0, 0)) :: pt b17 (.cells #[.slice a2 (P2.map Prod.fst).length c2, dv2, .int .u64 (T2 : Int)] 60 (0, 0)) :: base w0 :: []) (by assumption)) (by omega)
    rw [show (P.map Prod.fst).take ((P2.map Prod.fst).length : Int).toNat = P2.map Prod.fst from by rw [Int.toNat_natCast, l3]; exact htk.symm] at H
    refine O.callF Try.call42 rfl rfl (CT.mono (ints_ct (xs := P2.map Prod.fst) (Holds.to (by assumption)) (by omega)) ?_)
    rintro _ w ⟨rfl, H⟩
    refine O.thenNil ⟨(by first | exact Holds.to (by assumption) | assumption), ?_⟩
    refine OQ.ex rfl (fun w H => (Ex.move rfl)) rfl ?_
    refine OQ.known (t := 113) (c := true) rfl (by first | exact decide_eq_false (fun hh => hh k0) | exact decide_eq_false (fun hh => hh k1) | exact decide_eq_false k2 | rfl | decide) ?_
    refine OQ.exT rfl rfl rfl (fun w H => (by first | exact Ex.field0 fld60_2 rfl | exact Ex.field fld60_2 rfl | exact Ex.fieldS fld60_2 rfl)) rfl ?_
    refine OQ.exT rfl rfl rfl (fun w H => (by first | exact Ex.loadMh Try.isAgg58 rfl | exact Ex.loadP Try.isAgg58 rfl | exact Ex.loadM Try.isAgg58 rfl | exact Ex.loadIn1 Try.isAgg58 rfl (Holds.to (by assumption)) | exact Ex.loadVc Try.isAgg58 rfl | exact Ex.loadR Try.isAgg58 rfl | exact Ex.loadQ Try.isAgg58 rfl)) rfl ?_
    refine OQ.exT rfl rfl rfl (fun w H => (by first | exact Ex.field0 fld60_2 rfl | exact Ex.field fld60_2 rfl | exact Ex.fieldS fld60_2 rfl)) rfl ?_
    refine OQ.exT rfl rfl rfl (fun w H => (by first | exact Ex.loadMh Try.isAgg58 rfl | exact Ex.loadP Try.isAgg58 rfl | exact Ex.loadM Try.isAgg58 rfl | exact Ex.loadIn1 Try.isAgg58 rfl (Holds.to (by assumption)) | exact Ex.loadVc Try.isAgg58 rfl | exact Ex.loadR Try.isAgg58 rfl | exact Ex.loadQ Try.isAgg58 rfl)) rfl ?_
    refine OQ.exT rfl rfl rfl (fun w H => (Ex.andNot64 _ _ rfl rfl)) rfl ?_
    refine OQ.exT rfl rfl rfl (fun w H => (Ex.eql64 _ 0 rfl rfl)) rfl ?_
    refine OQ.ex rfl (fun w H => (Ex.pick_t rfl rfl)) rfl ?_
    refine OQ.ex rfl (fun w H => (Ex.assign rfl)) rfl ?_
    refine OQ.done ?_
    refine hK18 _ _ _ ?_
    refine W.ret ?_
    try dsimp only [thenQ, blockQ, retQ]
    first | refine ⟨_, ⟨_, _, rfl, rfl, rfl⟩, ?_⟩ | (refine retD_mark ?_; intro w H; refine ⟨_, ⟨_, _, rfl, rfl, rfl⟩, ?_⟩) | (refine retD_mark2 ?_; intro w H; refine ⟨_, ⟨_, _, rfl, rfl, rfl⟩, ?_⟩)
    refine ⟨?_, Holds.base_below (L := []) (Holds.to (by assumption))⟩
    exact congrArg Value.bool (decide_eq_true hsub)
theorem witnessLess_row {w0 : World} {q z few wi : Int} {lv : Value} {l : List Step} (hq : (Lit.int .u8 q).wf = true) (hx : SlIn w0 3 Step.enc lv l) (hg : ∀ x ∈ l, x.ok) (hl : l.length ≤ maxLen) (hz : (Lit.int .u8 z).wf = true) (hwi : (Lit.int .u64 wi).wf = true) (hf : (Lit.int .u8 few).wf = true) :
    CT Try.prog 10 [.int .u8 q, lv, .int .u8 z, .int .u64 wi, .int .u8 few] w0 fun x w' => x = .bool true ∧ RowKit.Below w0.heap.size w0 w' := by
  obtain ⟨z0, z1⟩ := bounds_u8 hz
  obtain ⟨f0, f1⟩ := bounds_u8 hf
  obtain ⟨h0, h1⟩ := bounds_u64 hwi
  have := witnessLess_ct (w0 := w0) (wi := wi.toNat) hq hx (by unfold maxLen at hl; omega) z0 z1 (by omega) f0 f1
  rwa [Int.toNat_of_nonneg h0] at this
end Go.Proofs.Ytblapiiinbppiaa
