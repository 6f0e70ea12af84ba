import Derived.Test.YtblapiiinbppiaaWit6
import Derived.Test.YtblapiiinbppiaaWitLaw3
namespace Go.Proofs.Ytblapiiinbppiaa
--ARR
open Go.Rr Go Hp Wt
set_option linter.unusedVariables false
theorem seenV {w : World} {b : Nat} {L : List HProp} (H : Holds w (pt b (.cells (Value.agg #[.bool false, .bool false, .bool false, .bool false, .bool false, .bool false, .bool false, .bool false, .bool false, .bool false, .bool false, .bool false, .bool false, .bool false, .bool false, .bool false, .bool false, .bool false, .bool false, .bool false, .bool false, .bool false, .bool false, .bool false]).cells 53 (0, 0)) :: L)) :
    Holds w (vec b 53 [] 24 Value.bool (fun _ => false) :: L) := vec_pt.2 H
theorem take_fst (P : List (Int × Int)) {i : Nat} (h : i < P.length) : (P.take (i + 1)).map Prod.fst = (P.take i).map Prod.fst ++ [(P[i]'h).1] := by
  rw [List.take_succ_eq_append_getElem h, List.map_append]; rfl
theorem fresh {P : List (Int × Int)} (hnd : (P.map Prod.fst).Nodup) {i : Nat} (h : i < P.length) : (P[i]'h).1 ∉ (P.take i).map Prod.fst := by
  intro hm
  have h1 : ((P.take (i + 1)).map Prod.fst).Nodup := by
    rw [List.map_take]; exact List.Nodup.sublist (List.take_sublist _ _) hnd
  rw [take_fst P h, List.nodup_append] at h1
  exact h1.2.2 _ hm _ (List.mem_singleton.2 rfl) rfl
set_option maxHeartbeats 4000000 in
theorem witnessFar_ct {w0 : World} {q z : Int} {lv : Value} {l : List Step} (hq : (Lit.int .u8 q).wf = true) (hx : SlIn w0 3 Step.enc lv l) (hl : l.length ≤ 9223372036854775807) (z0 : 0 ≤ z) (z1 : z ≤ 255) :
    CT Try.prog 8 [.int .u8 q, lv, .int .u8 z] w0 fun x w' => x = .bool true ∧ RowKit.Below w0.heap.size w0 w' := by
  have H := Holds.base_refl w0
  refine CT.enter (N := 123) Try.func8 rfl rfl rfl rfl ?_
  refine W.seq (fun K0 hK0 => ?_)
  refine W.region ?_
  refine O.ex (Ex.assign rfl) rfl ?_
  refine O.nil ?_
  refine hK0 _ _ _ ?_
  refine W.seq (fun K1 hK1 => ?_)
  refine W.seq (fun K2 hK2 => ?_)
  refine W.region ?_
  refine O.callF Try.call32 rfl rfl (CT.mono (awake13_ct (Holds.to (by assumption))) ?_)
  rintro _ w ⟨rfl, H⟩
  refine O.ex (by first | exact Ex.notD rfl | exact Ex.not rfl) rfl ?_
  refine O.nil ?_
  refine hK2 _ _ _ ?_
  refine W.known_f rfl (by first | exact decide_eq_false k1 | exact decide_eq_false k2 | exact k3 | exact decide_eq_false (fun hh => hh k4) | exact decide_eq_false (fun hh => hh k5) | exact decide_eq_false (fun hh => hh k6) | exact decide_eq_false (fun hh => hh k0) | rfl | decide) ?_
  refine W.skip ?_
  refine hK1 _ _ _ ?_
  refine W.seq (fun K3 hK3 => ?_)
  refine W.region ?_
  refine O.ex (Ex.move rfl) rfl ?_
  refine O.ex (Ex.move rfl) rfl ?_
  refine O.callF Try.call16 rfl rfl (CT.mono (made_ct hq hx hl (Holds.to (by assumption))) ?_)
  rintro _ w ⟨m, r, n, c, hg, rfl, H⟩
  have n1 := hg.n1
  have n2 := hg.n2
  refine O.ex (Ex.move rfl) rfl ?_
  refine O.ex (Ex.extract rfl rfl) rfl ?_
  refine O.ex (Ex.extract rfl rfl) rfl ?_
  refine O.ex (Ex.assign rfl) rfl ?_
  refine O.ex (Ex.assign rfl) rfl ?_
  refine O.nil ?_
  refine hK3 _ _ _ ?_
  refine W.seq (fun K4 hK4 => ?_)
  refine W.seq (fun K5 hK5 => ?_)
  refine W.region ?_
  refine O.ex (Ex.move rfl) rfl ?_
  refine O.ex (Ex.nilEq Try.runUnderlying25 rfl rfl) rfl ?_
  refine O.nil ?_
  refine hK5 _ _ _ ?_
  refine W.known_f rfl (by first | exact decide_eq_false k1 | exact decide_eq_false k2 | exact k3 | exact decide_eq_false (fun hh => hh k4) | exact decide_eq_false (fun hh => hh k5) | exact decide_eq_false (fun hh => hh k6) | exact decide_eq_false (fun hh => hh k0) | rfl | decide) ?_
  refine W.skip ?_
  refine hK4 _ _ _ ?_
  refine W.seq (fun K6 hK6 => ?_)
  refine W.region ?_
  refine O.ex (Ex.move rfl) rfl ?_
  refine O.ex (by first | exact Ex.convToI Try.runUnderlying5 Try.runUnderlying3 rfl | exact Ex.convW Try.runUnderlying5 Try.runUnderlying3 rfl) rfl ?_
  refine O.ex (Ex.move rfl) rfl ?_
  refine O.ex (by first | exact Ex.nilPtr rfl | exact Ex.nilFunc rfl | exact Ex.nilYield rfl) rfl ?_
  refine O.ex (by first | exact Ex.field0 fld32_0 rfl | exact Ex.field fld32_0 rfl | exact Ex.fieldS fld32_0 rfl) rfl ?_
  have H := rh_open.1 (Holds.to (M := Rh r n c :: Mh m n c :: base w0 :: []) (by assumption))
  refine O.ex (by first | exact Ex.loadMh Try.isAgg3 rfl | exact Ex.loadP Try.isAgg3 rfl | exact Ex.loadM Try.isAgg3 rfl | exact Ex.loadIn1 Try.isAgg3 rfl (Holds.to (by assumption)) | exact Ex.loadVc Try.isAgg3 rfl | exact Ex.loadR Try.isAgg3 rfl | exact Ex.loadQ Try.isAgg3 rfl) rfl ?_
  refine O.ex (by first | exact Ex.remI rfl rfl | exact Ex.rem rfl rfl (by omega) rfl) rfl ?_
  refine O.ex (Ex.assign rfl) rfl ?_
  refine O.nil ?_
  refine hK6 _ _ _ ?_
  refine W.seq (fun K7 hK7 => ?_)
  refine W.region ?_
  have H := rh_open.2 (Holds.to (M := mtx r 32 [.int .i64 n] c :: Mh m n c :: base w0 :: []) (by assumption))
  obtain ⟨s, hs⟩ : ∃ s, s = z % n := ⟨_, rfl⟩
  rw [← hs]
  have hs0 : 0 ≤ s := by rw [hs]; exact Int.emod_nonneg _ (by omega)
  have hs1 : s < n := by rw [hs]; exact Int.emod_lt_of_pos _ (by omega)
  have hs1' : s < 24 := by omega
  refine O.ex (Ex.move rfl) rfl ?_
  refine O.ex (Ex.move rfl) rfl ?_
  refine O.callF Try.call33 rfl rfl (CT.mono (wfind_ct (wo := 0) hg (by decide) (Holds.to (by assumption))) ?_)
  rintro _ w (⟨hno, -⟩ | ⟨-, j, T, sv, dv, hto, hst, hT, rfl, hv1, hd1, H⟩)
  · exact absurd ⟨⟨hs0, hs1⟩, inS_zero s⟩ hno
  obtain ⟨s0, hss⟩ : ∃ s0, s0 = s.toNat := ⟨_, rfl⟩
  have hs0s : (s0 : Int) = s := by omega
  have hs0n : s0 < n.toNat := by omega
  rw [← hss] at hto hst hT H
  have hfar := st_far hg hs0n j
  have hseen := fun (v : Nat) (hv : v < n.toNat) => seen_iff hg hs0n hst hv
  have htq := fun (v : Nat) (hv : v < n.toNat) => tq_isIn hg hs0n hst hv
  have hok := st_ok (N := n.toNat) (s0 := s0) (wo := 0) hg j
  obtain ⟨P, hP⟩ : ∃ P, P = st n.toNat c s0 0 j := ⟨_, rfl⟩
  rw [← hP] at hT H hfar hseen htq hok
  have hPl := hok.len
  have l1 : (P.map Prod.fst).length = P.length := List.length_map _
  have l2 : (P.map Prod.snd).length = P.length := List.length_map _
  have k0 : ((P.map Prod.snd).length : Int) = (P.map Prod.fst).length := by omega
  refine O.ex (Ex.move rfl) rfl ?_
  refine O.ex (Ex.extract rfl rfl) rfl ?_
  refine O.ex (Ex.extract rfl rfl) rfl ?_
  refine O.allocP Try.zeroValue60 (fun b10 w H => ?_)
  refine O.storeAggP Try.sizeOf60 rfl rfl rfl (all3 hv1 hd1 rfl) (fun w H => ?_)
  refine O.ex (Ex.assign rfl) rfl ?_
  refine O.nil ?_
  refine hK7 _ _ _ ?_
  refine W.seq (fun K8 hK8 => ?_)
  refine W.seq (fun K9 hK9 => ?_)
  refine W.region ?_
  refine O.ex (Ex.move rfl) rfl ?_
  refine O.ex (Ex.neqI rfl rfl) rfl ?_
  refine O.ex (Ex.move rfl) rfl ?_
  refine O.known (t := 42) (c := false) rfl (by first | exact decide_eq_false k1 | exact decide_eq_false k2 | exact k3 | exact decide_eq_false (fun hh => hh k4) | exact decide_eq_false (fun hh => hh k5) | exact decide_eq_false (fun hh => hh k6) | exact decide_eq_false (fun hh => hh k0) | rfl | decide) ?_
  refine O.guard_t rfl rfl ?_
  refine O.ex (by first | exact Ex.field0 fld60_1 rfl | exact Ex.field fld60_1 rfl | exact Ex.fieldS fld60_1 rfl) rfl ?_
  refine O.guard_t rfl rfl ?_
  refine O.ex (by first | exact Ex.loadMh Try.isAgg51 rfl | exact Ex.loadP Try.isAgg51 rfl | exact Ex.loadM Try.isAgg51 rfl | exact Ex.loadIn1 Try.isAgg51 rfl (Holds.to (by assumption)) | exact Ex.loadVc Try.isAgg51 rfl | exact Ex.loadR Try.isAgg51 rfl | exact Ex.loadQ Try.isAgg51 rfl) rfl ?_
  refine O.guard_t rfl rfl ?_
  refine O.ex (by first | exact Ex.lenR Try.runUnderlying51 rfl | exact Ex.lenIn Try.runUnderlying51 rfl | exact Ex.lenL Try.runUnderlying51 rfl | exact Ex.len rfl Try.runUnderlying51 rfl) rfl ?_
  refine O.guard_t rfl rfl ?_
  refine O.ex (by first | exact Ex.field0 fld60_0 rfl | exact Ex.field fld60_0 rfl | exact Ex.fieldS fld60_0 rfl) rfl ?_
  refine O.guard_t rfl rfl ?_
  refine O.ex (by first | exact Ex.loadMh Try.isAgg51 rfl | exact Ex.loadP Try.isAgg51 rfl | exact Ex.loadM Try.isAgg51 rfl | exact Ex.loadIn1 Try.isAgg51 rfl (Holds.to (by assumption)) | exact Ex.loadVc Try.isAgg51 rfl | exact Ex.loadR Try.isAgg51 rfl | exact Ex.loadQ Try.isAgg51 rfl) rfl ?_
  refine O.guard_t rfl rfl ?_
  refine O.ex (by first | exact Ex.lenR Try.runUnderlying51 rfl | exact Ex.lenIn Try.runUnderlying51 rfl | exact Ex.lenL Try.runUnderlying51 rfl | exact Ex.len rfl Try.runUnderlying51 rfl) rfl ?_
  refine O.guard_t rfl rfl ?_
  refine O.ex (Ex.neqI rfl rfl) rfl ?_
  refine O.ex (Ex.pick_f rfl rfl) rfl ?_
  refine O.nil ?_
  refine hK9 _ _ _ ?_
  refine W.known_f rfl (by first | exact decide_eq_false k1 | exact decide_eq_false k2 | exact k3 | exact decide_eq_false (fun hh => hh k4) | exact decide_eq_false (fun hh => hh k5) | exact decide_eq_false (fun hh => hh k6) | exact decide_eq_false (fun hh => hh k0) | rfl | decide) ?_
  refine W.skip ?_
  refine hK8 _ _ _ ?_
  refine W.seq (fun K10 hK10 => ?_)
  refine W.region ?_
  refine O.ex (Ex.move rfl) rfl ?_
  refine O.callF Try.call17 rfl rfl (CT.mono (refAll_ct hg (Holds.to (by assumption))) ?_)
  rintro _ w ⟨rfl, H⟩
  refine O.allocM [] zS (fun b12 w H => ?_)
  refine O.storeMall (hd := []) Try.sizeOf30 rfl rfl rfl rfl rfl (fun w H => ?_)
  refine O.nil ?_
  refine hK10 _ _ _ ?_
  refine W.seq (fun K11 hK11 => ?_)
  refine W.region ?_
  refine O.allocP Try.zeroValue53 (fun b13 w H => ?_)
  have H := seenV H
  refine O.nil ?_
  refine hK11 _ _ _ ?_
  refine W.seq (fun K12 hK12 => ?_)
  refine W.seq (fun K13 hK13 => ?_)
  refine W.region ?_
  refine O.ex (Ex.assign rfl) rfl ?_
  refine O.nil ?_
  refine hK13 _ _ _ ?_
  refine W.block ?_
  have H : Holds w [vec b13 53 [] 24 Value.bool (fun _ => false), mtx b12 30 [] (far n c), pt b10 (.cells #[sv, dv, .int .u64 (T : Int)] 60 (0, 0)), arr 3 (Value.int .i64) sv (P.map Prod.fst), arr 3 (Value.int .i64) dv (P.map Prod.snd), mtx r 32 [.int .i64 n] c, base w0] := Holds.to (by assumption)
  refine W.loop (σ := Nat) (fun i => [(8, .pointer (some ⟨r, 0, none⟩)), (9, .int .i64 s), (10, .pointer (some ⟨b10, 0, none⟩)), (12, .pointer (some ⟨b12, 0, none⟩)), (13, .pointer (some ⟨b13, 0, none⟩)), (14, .int .i64 (i : Int))]) (fun i ds w => ds = [] ∧ i ≤ P.length ∧ ∃ g : Nat → Bool, (∀ x : Nat, g x = decide ((x : Int) ∈ (P.take i).map Prod.fst)) ∧ Holds w [vec b13 53 [] 24 Value.bool g, mtx b12 30 [] (far n c), pt b10 (.cells #[sv, dv, .int .u64 (T : Int)] 60 (0, 0)), arr 3 (Value.int .i64) sv (P.map Prod.fst), arr 3 (Value.int .i64) dv (P.map Prod.snd), mtx r 32 [.int .i64 n] c, base w0]) (fun i => P.length - i) 0 ⟨rfl, rfl, rfl, rfl, rfl, rfl, trivial⟩ ⟨rfl, by omega, fun _ => false, fun x => by simp, Holds.to (by assumption)⟩ ?_
  clear H
  rintro i _ w ⟨rfl, hi, g, hgx, H⟩
  refine W.seq (fun K14 hK14 => ?_)
  refine W.seq (fun K15 hK15 => ?_)
  refine W.region ?_
  refine O.ex (Ex.move rfl) rfl ?_
  refine O.ex (by first | exact Ex.field0 fld60_0 rfl | exact Ex.field fld60_0 rfl | exact Ex.fieldS fld60_0 rfl) rfl ?_
  refine O.ex (by first | exact Ex.loadMh Try.isAgg51 rfl | exact Ex.loadP Try.isAgg51 rfl | exact Ex.loadM Try.isAgg51 rfl | exact Ex.loadIn1 Try.isAgg51 rfl (Holds.to (by assumption)) | exact Ex.loadVc Try.isAgg51 rfl | exact Ex.loadR Try.isAgg51 rfl | exact Ex.loadQ Try.isAgg51 rfl) rfl ?_
  refine O.ex (by first | exact Ex.lenR Try.runUnderlying51 rfl | exact Ex.lenIn Try.runUnderlying51 rfl | exact Ex.lenL Try.runUnderlying51 rfl | exact Ex.len rfl Try.runUnderlying51 rfl) rfl ?_
  refine O.ex (Ex.lss rfl rfl) rfl ?_
  refine O.nil ?_
  refine hK15 _ _ _ ?_
  first | refine W.cond_p rfl (fun hlt => ?_) (fun hge => ?_) | refine W.cond_b rfl (fun hlt => ?_) (fun hge => ?_)
  · refine W.skip ?_
    refine hK14 _ _ _ ?_
    refine W.seq (fun K16 hK16 => ?_)
    refine W.block ?_
    refine W.seq (fun K17 hK17 => ?_)
    refine W.region ?_
    refine O.ex (by first | exact Ex.field0 fld60_0 rfl | exact Ex.field fld60_0 rfl | exact Ex.fieldS fld60_0 rfl) rfl ?_
    refine O.ex (by first | exact Ex.loadMh Try.isAgg51 rfl | exact Ex.loadP Try.isAgg51 rfl | exact Ex.loadM Try.isAgg51 rfl | exact Ex.loadIn1 Try.isAgg51 rfl (Holds.to (by assumption)) | exact Ex.loadVc Try.isAgg51 rfl | exact Ex.loadR Try.isAgg51 rfl | exact Ex.loadQ Try.isAgg51 rfl) rfl ?_
    refine O.ex (Ex.move rfl) rfl ?_
    refine O.ex (by first | exact Ex.idxR Try.runUnderlying51 Try.sizeOf3 rfl rfl | exact Ex.idxIn Try.runUnderlying51 Try.sizeOf3 rfl rfl | exact Ex.idxS Try.runUnderlying51 Try.sizeOf3 rfl rfl | exact Ex.idx Try.runUnderlying51 Try.sizeOf3 rfl rfl (by omega) (by omega)) rfl ?_
    refine O.ex (by first | exact Ex.loadR Try.isAgg3 rfl | exact Ex.loadIn1 Try.isAgg3 rfl (Holds.to (by assumption)) | exact Ex.loadP Try.isAgg3 rfl | exact Ex.loadMh Try.isAgg3 rfl | exact Ex.loadM Try.isAgg3 rfl | exact Ex.loadVc Try.isAgg3 rfl | exact Ex.loadQ Try.isAgg3 rfl) rfl ?_
    refine O.ex (Ex.assign rfl) rfl ?_
    refine O.nil ?_
    refine hK17 _ _ _ ?_
    refine W.seq (fun K18 hK18 => ?_)
    refine W.seq (fun K19 hK19 => ?_)
    have hil : i < P.length := by omega
    obtain ⟨v, hv⟩ : ∃ v, v = (P.map Prod.fst).getD ((i : Nat) : Int).toNat default := ⟨_, rfl⟩
    rw [← hv]
    have hvp : v = (P[i]'hil).1 := by rw [hv, Int.toNat_natCast, map_getD P _ hil]
    have hr := hok.rng _ (List.getElem_mem hil)
    rw [← hvp] at hr
    have v0 : 0 ≤ v := hr.1
    have v1 : v < n := by have := hr.2.1; omega
    have v2 : v < 24 := by omega
    have k1 : ¬ v < 0 := by omega
    have k2 : ¬ n ≤ v := by omega
    have k3 : g v.toNat = false := by rw [hgx]; exact decide_eq_false (by rw [Int.toNat_of_nonneg v0, hvp]; exact fresh hok.nodup hil)
    have k4 : (P.map Prod.snd).getD ((i : Nat) : Int).toNat default = far n c s v := by
      rw [Int.toNat_natCast, map_getD P _ hil, hvp, ← hs0s]; exact hfar _ (List.getElem_mem hil)
    refine W.drawTo _ (.take 0 (.take 1 (.take 2 (.take 3 (.take 4 (.take 5 (.take 6 (.take 7 (.take 8 (.take 9 (.take 10 (.take 11 (.take 12 (.take 13 (.take 14 (.take 15 (.take 16 (.take 17 (.take 18 (.take 19 (.take 20 (.take 21 (.take 22 (.take 23 (.take 24 (.take 25 (.take 26 (.take 27 .nil)))))))))))))))))))))))))))) (mixed) (fun _ _ _ _ h => h) (by assumption) (PP.refl _) (by decide +kernel) (fun w H => ?_)
    refine OQ.ex rfl (fun w H => (Ex.move rfl)) rfl ?_
    refine OQ.ex rfl (fun w H => (Ex.lss rfl rfl)) rfl ?_
    refine OQ.ex rfl (fun w H => (Ex.move rfl)) rfl ?_
    refine OQ.known (t := 67) (c := false) rfl (by first | exact decide_eq_false k1 | exact decide_eq_false k2 | exact k3 | exact decide_eq_false (fun hh => hh k4) | exact decide_eq_false (fun hh => hh k5) | exact decide_eq_false (fun hh => hh k6) | exact decide_eq_false (fun hh => hh k0) | rfl | decide) ?_
    refine OQ.exT rfl rfl rfl (fun w H => (Ex.move rfl)) rfl ?_
    refine OQ.exT rfl rfl rfl (fun w H => (Ex.move rfl)) rfl ?_
    refine OQ.exT rfl rfl rfl (fun w H => (by first | exact Ex.nilPtr rfl | exact Ex.nilFunc rfl | exact Ex.nilYield rfl)) rfl ?_
    refine OQ.exT rfl rfl rfl (fun w H => (by first | exact Ex.field0 fld32_0 rfl | exact Ex.field fld32_0 rfl | exact Ex.fieldS fld32_0 rfl)) rfl ?_
    refine OQ.exT rfl rfl rfl (fun w H => (by first | exact Ex.loadMh Try.isAgg3 rfl | exact Ex.loadP Try.isAgg3 rfl | exact Ex.loadM Try.isAgg3 rfl | exact Ex.loadIn1 Try.isAgg3 rfl (Holds.to (by assumption)) | exact Ex.loadVc Try.isAgg3 rfl | exact Ex.loadR Try.isAgg3 rfl | exact Ex.loadQ Try.isAgg3 rfl)) rfl ?_
    refine OQ.exT rfl rfl rfl (fun w H => (Ex.geq rfl rfl)) rfl ?_
    refine OQ.ex rfl (fun w H => (Ex.pick_f rfl rfl)) rfl ?_
    refine OQ.ex rfl (fun w H => (Ex.move rfl)) rfl ?_
    refine OQ.known (t := 75) (c := false) rfl (by first | exact decide_eq_false k1 | exact decide_eq_false k2 | exact k3 | exact decide_eq_false (fun hh => hh k4) | exact decide_eq_false (fun hh => hh k5) | exact decide_eq_false (fun hh => hh k6) | exact decide_eq_false (fun hh => hh k0) | rfl | decide) ?_
    refine OQ.exT rfl rfl rfl (fun w H => (Ex.move rfl)) rfl ?_
    refine OQ.exT rfl rfl rfl (fun w H => (Ex.idxArr Try.runUnderlying53 Try.sizeOf4 rfl rfl)) rfl ?_
    refine OQ.exT rfl rfl rfl (fun w H => (by first | exact Ex.loadM Try.isAgg4 rfl | exact Ex.loadVc Try.isAgg4 rfl | exact Ex.loadP Try.isAgg4 rfl | exact Ex.loadIn1 Try.isAgg4 rfl (Holds.to (by assumption)) | exact Ex.loadMh Try.isAgg4 rfl | exact Ex.loadR Try.isAgg4 rfl | exact Ex.loadQ Try.isAgg4 rfl)) rfl ?_
    refine OQ.ex rfl (fun w H => (Ex.pick_f rfl rfl)) rfl ?_
    refine OQ.ex rfl (fun w H => (Ex.move rfl)) rfl ?_
    refine OQ.known (t := 80) (c := false) rfl (by first | exact decide_eq_false k1 | exact decide_eq_false k2 | exact k3 | exact decide_eq_false (fun hh => hh k4) | exact decide_eq_false (fun hh => hh k5) | exact decide_eq_false (fun hh => hh k6) | exact decide_eq_false (fun hh => hh k0) | rfl | decide) ?_
    refine OQ.exT rfl rfl rfl (fun w H => (by first | exact Ex.field0 fld60_1 rfl | exact Ex.field fld60_1 rfl | exact Ex.fieldS fld60_1 rfl)) rfl ?_
    refine OQ.exT rfl rfl rfl (fun w H => (by first | exact Ex.loadMh Try.isAgg51 rfl | exact Ex.loadP Try.isAgg51 rfl | exact Ex.loadM Try.isAgg51 rfl | exact Ex.loadIn1 Try.isAgg51 rfl (Holds.to (by assumption)) | exact Ex.loadVc Try.isAgg51 rfl | exact Ex.loadR Try.isAgg51 rfl | exact Ex.loadQ Try.isAgg51 rfl)) rfl ?_
    refine OQ.exT rfl rfl rfl (fun w H => (Ex.move rfl)) rfl ?_
    refine OQ.exT rfl rfl rfl (fun w H => (by first | exact Ex.idxR Try.runUnderlying51 Try.sizeOf3 rfl rfl | exact Ex.idxIn Try.runUnderlying51 Try.sizeOf3 rfl rfl | exact Ex.idxS Try.runUnderlying51 Try.sizeOf3 rfl rfl | exact Ex.idx Try.runUnderlying51 Try.sizeOf3 rfl rfl (by omega) (by omega))) rfl ?_
    refine OQ.exT rfl rfl rfl (fun w H => (by first | exact Ex.loadR Try.isAgg3 rfl | exact Ex.loadIn1 Try.isAgg3 rfl (Holds.to (by assumption)) | exact Ex.loadP Try.isAgg3 rfl | exact Ex.loadMh Try.isAgg3 rfl | exact Ex.loadM Try.isAgg3 rfl | exact Ex.loadVc Try.isAgg3 rfl | exact Ex.loadQ Try.isAgg3 rfl)) rfl ?_
    refine OQ.exT rfl rfl rfl (fun w H => (Ex.move rfl)) rfl ?_
    refine OQ.exT rfl rfl rfl (fun w H => (Ex.move rfl)) rfl ?_
    refine OQ.exT rfl rfl rfl (fun w H => (Ex.idxArr Try.runUnderlying30 Try.sizeOf29 rfl rfl)) rfl ?_
    refine OQ.exT rfl rfl rfl (fun w H => (Ex.idxArr Try.runUnderlying29 Try.sizeOf3 rfl rfl)) rfl ?_
    refine OQ.exT rfl rfl rfl (fun w H => (by first | exact Ex.loadM Try.isAgg3 rfl | exact Ex.loadVc Try.isAgg3 rfl | exact Ex.loadP Try.isAgg3 rfl | exact Ex.loadIn1 Try.isAgg3 rfl (Holds.to (by assumption)) | exact Ex.loadMh Try.isAgg3 rfl | exact Ex.loadR Try.isAgg3 rfl | exact Ex.loadQ Try.isAgg3 rfl)) rfl ?_
    refine OQ.exT rfl rfl rfl (fun w H => (Ex.neqI rfl rfl)) rfl ?_
    refine OQ.ex rfl (fun w H => (Ex.pick_f rfl rfl)) rfl ?_
    refine OQ.done ?_
    refine hK19 _ _ _ ?_
    refine W.known_f rfl (by first | exact decide_eq_false k1 | exact decide_eq_false k2 | exact k3 | exact decide_eq_false (fun hh => hh k4) | exact decide_eq_false (fun hh => hh k5) | exact decide_eq_false (fun hh => hh k6) | exact decide_eq_false (fun hh => hh k0) | rfl | decide) ?_
    refine W.skip ?_
    refine hK18 _ _ _ ?_
    refine W.region ?_
    refine O.ex (Ex.move rfl) rfl ?_
    refine O.ex (Ex.idxArr Try.runUnderlying53 Try.sizeOf4 rfl rfl) rfl ?_
    first | refine O.storeP Try.sizeOf4 rfl rfl (fun w H => ?_) | refine O.storeR Try.sizeOf4 rfl rfl (fun w H => ?_) | refine O.storeM Try.sizeOf4 rfl rfl (fun w H => ?_) | refine O.storeVc Try.sizeOf4 rfl rfl (fun w H => ?_)
    refine O.nil ?_
    refine hK16 _ _ _ ?_
    refine W.region ?_
    refine O.ex (Ex.move rfl) rfl ?_
    refine O.ex (by first | exact Ex.addI rfl rfl | exact Ex.add rfl rfl rfl) rfl ?_
    refine O.ex (Ex.assign rfl) rfl ?_
    refine O.nil ?_
    refine ⟨i + 1, ⟨rfl, rfl, rfl, rfl, rfl, rfl, trivial⟩, ⟨rfl, by omega, _, fun x => ?_, Holds.to (by assumption)⟩, by omega⟩
    rw [take_fst P hil, ← hvp]
    unfold upd1
    by_cases e : x = v.toNat
    · rw [if_pos e]; exact (decide_eq_true (List.mem_append_right _ (List.mem_singleton.2 (by omega)))).symm
    · rw [if_neg e, hgx]
      exact decide_eq_decide.2 ⟨fun h => List.mem_append_left _ h, fun h => (List.mem_append.1 h).elim id (fun h => absurd (List.mem_singleton.1 h) (by omega))⟩
  · refine W.exit ?_
    refine hK12 _ _ _ ?_
    refine W.seq (fun K20 hK20 => ?_)
    refine W.seq (fun K21 hK21 => ?_)
    refine W.region ?_
    refine O.ex (Ex.assign rfl) rfl ?_
    refine O.nil ?_
    refine hK21 _ _ _ ?_
    refine W.block ?_
    have hiP : i = P.length := by omega
    have hgx2 : ∀ x : Nat, g x = decide (isIn P x) := fun x => by rw [hgx, hiP, List.take_length]; rfl
    have H : Holds w [vec b13 53 [] 24 Value.bool g, mtx b12 30 [] (far n c), pt b10 (.cells #[sv, dv, .int .u64 (T : Int)] 60 (0, 0)), mtx r 32 [.int .i64 n] c, base w0] := Holds.to (by assumption)
    refine W.loop (σ := Nat) (fun i => [(8, .pointer (some ⟨r, 0, none⟩)), (9, .int .i64 s), (10, .pointer (some ⟨b10, 0, none⟩)), (12, .pointer (some ⟨b12, 0, none⟩)), (13, .pointer (some ⟨b13, 0, none⟩)), (16, .int .i64 (i : Int))]) (fun i ds w => ds = [] ∧ (i : Int) ≤ n ∧ Holds w [vec b13 53 [] 24 Value.bool g, mtx b12 30 [] (far n c), pt b10 (.cells #[sv, dv, .int .u64 (T : Int)] 60 (0, 0)), mtx r 32 [.int .i64 n] c, base w0]) (fun i => n.toNat - i) 0 ⟨rfl, rfl, rfl, rfl, rfl, rfl, trivial⟩ ⟨rfl, by omega, Holds.to (by assumption)⟩ ?_
    clear H
    rintro v _ w ⟨rfl, hv, H⟩
    refine W.seq (fun K22 hK22 => ?_)
    refine W.seq (fun K23 hK23 => ?_)
    refine W.region ?_
    refine O.ex (Ex.move rfl) rfl ?_
    refine O.ex (Ex.move rfl) rfl ?_
    refine O.ex (by first | exact Ex.nilPtr rfl | exact Ex.nilFunc rfl | exact Ex.nilYield rfl) rfl ?_
    refine O.ex (by first | exact Ex.field0 fld32_0 rfl | exact Ex.field fld32_0 rfl | exact Ex.fieldS fld32_0 rfl) rfl ?_
    refine O.ex (by first | exact Ex.loadMh Try.isAgg3 rfl | exact Ex.loadP Try.isAgg3 rfl | exact Ex.loadM Try.isAgg3 rfl | exact Ex.loadIn1 Try.isAgg3 rfl (Holds.to (by assumption)) | exact Ex.loadVc Try.isAgg3 rfl | exact Ex.loadR Try.isAgg3 rfl | exact Ex.loadQ Try.isAgg3 rfl) rfl ?_
    refine O.ex (Ex.lss rfl rfl) rfl ?_
    refine O.nil ?_
    refine hK23 _ _ _ ?_
    first | refine W.cond_p rfl (fun hltC => ?_) (fun hgeC => ?_) | refine W.cond_b rfl (fun hltC => ?_) (fun hgeC => ?_)
    · refine W.skip ?_
      refine hK22 _ _ _ ?_
      refine W.seq (fun K24 hK24 => ?_)
      refine W.block ?_
      refine W.seq (fun K25 hK25 => ?_)
      have hvn : v < n.toNat := by omega
      have v0 : (0 : Int) ≤ (v : Nat) := by omega
      have v2 : ((v : Nat) : Int) < 24 := by omega
      have k5 : g ((v : Nat) : Int).toNat = decide (far n c s (v : Nat) < 4611686018427387906) := by
        rw [Int.toNat_natCast, hgx2]; exact decide_eq_decide.2 (by rw [← hs0s]; exact hseen v hvn)
      have k6 : inS T ((v : Nat) : Int) = g ((v : Nat) : Int).toNat := by
        rw [Int.toNat_natCast, hgx2, inS_nat T v (by omega), Bool.eq_iff_iff, hT.2 v (by omega), decide_eq_true_iff]; exact htq v hvn
      refine W.drawTo _ (.take 0 (.take 1 (.take 2 (.take 3 (.take 4 (.take 5 (.take 6 (.take 7 (.take 8 (.take 9 (.take 10 (.take 11 (.take 12 (.take 13 (.take 15 (.take 16 (.take 17 (.one 14 (.take 18 (.take 19 .nil)))))))))))))))))))) (mixed) (fun _ _ _ _ h => h) (by assumption) (PP.refl _) (by decide +kernel) (fun w H => ?_)
      refine OQ.ex rfl (fun w H => (Ex.move rfl)) rfl ?_
      refine OQ.ex rfl (fun w H => (Ex.idxArr Try.runUnderlying53 Try.sizeOf4 rfl rfl)) rfl ?_
      refine OQ.ex rfl (fun w H => (by first | exact Ex.loadM Try.isAgg4 rfl | exact Ex.loadVc Try.isAgg4 rfl | exact Ex.loadP Try.isAgg4 rfl | exact Ex.loadIn1 Try.isAgg4 rfl (Holds.to (by assumption)) | exact Ex.loadMh Try.isAgg4 rfl | exact Ex.loadR Try.isAgg4 rfl | exact Ex.loadQ Try.isAgg4 rfl)) rfl ?_
      refine OQ.ex rfl (fun w H => (Ex.move rfl)) rfl ?_
      refine OQ.ex rfl (fun w H => (Ex.move rfl)) rfl ?_
      refine OQ.ex rfl (fun w H => (Ex.idxArr Try.runUnderlying30 Try.sizeOf29 rfl rfl)) rfl ?_
      refine OQ.ex rfl (fun w H => (Ex.idxArr Try.runUnderlying29 Try.sizeOf3 rfl rfl)) rfl ?_
      refine OQ.ex rfl (fun w H => (by first | exact Ex.loadM Try.isAgg3 rfl | exact Ex.loadVc Try.isAgg3 rfl | exact Ex.loadP Try.isAgg3 rfl | exact Ex.loadIn1 Try.isAgg3 rfl (Holds.to (by assumption)) | exact Ex.loadMh Try.isAgg3 rfl | exact Ex.loadR Try.isAgg3 rfl | exact Ex.loadQ Try.isAgg3 rfl)) rfl ?_
      refine OQ.ex rfl (fun w H => (Ex.lss rfl rfl)) rfl ?_
      refine OQ.ex rfl (fun w H => (Ex.neqB Try.runUnderlying4 rfl rfl)) rfl ?_
      refine OQ.ex rfl (fun w H => (Ex.move rfl)) rfl ?_
      refine OQ.known (t := 113) (c := false) rfl (by first | exact decide_eq_false k1 | exact decide_eq_false k2 | exact k3 | exact decide_eq_false (fun hh => hh k4) | exact decide_eq_false (fun hh => hh k5) | exact decide_eq_false (fun hh => hh k6) | exact decide_eq_false (fun hh => hh k0) | rfl | decide) ?_
      refine OQ.exT rfl rfl rfl (fun w H => (by first | exact Ex.field0 fld60_2 rfl | exact Ex.field fld60_2 rfl | exact Ex.fieldS fld60_2 rfl)) rfl ?_
      refine OQ.exT rfl rfl rfl (fun w H => (by first | exact Ex.loadMh Try.isAgg58 rfl | exact Ex.loadP Try.isAgg58 rfl | exact Ex.loadM Try.isAgg58 rfl | exact Ex.loadIn1 Try.isAgg58 rfl (Holds.to (by assumption)) | exact Ex.loadVc Try.isAgg58 rfl | exact Ex.loadR Try.isAgg58 rfl | exact Ex.loadQ Try.isAgg58 rfl)) rfl ?_
      refine OQ.exT rfl rfl rfl (fun w H => (Ex.move rfl)) rfl ?_
      refine OQ.exT rfl rfl rfl (fun w H => (Ex.move rfl)) rfl ?_
      refine OQ.exT rfl rfl rfl (fun w H => (Ex.idxArr Try.runUnderlying53 Try.sizeOf4 rfl rfl)) rfl ?_
      refine OQ.exT rfl rfl rfl (fun w H => (by first | exact Ex.loadM Try.isAgg4 rfl | exact Ex.loadVc Try.isAgg4 rfl | exact Ex.loadP Try.isAgg4 rfl | exact Ex.loadIn1 Try.isAgg4 rfl (Holds.to (by assumption)) | exact Ex.loadMh Try.isAgg4 rfl | exact Ex.loadR Try.isAgg4 rfl | exact Ex.loadQ Try.isAgg4 rfl)) rfl ?_
      refine OQ.step rfl ?_
      refine O.guard_t rfl rfl ?_
      refine O.callF Try.call40 rfl rfl (CT.mono (has_ct (Holds.to (by assumption)) hT.1) ?_)
      rintro _ w ⟨rfl, H⟩
      refine O.thenNil ⟨(by first | exact Holds.to (by assumption) | assumption), ?_⟩
      refine OQ.exT rfl rfl rfl (fun w H => (Ex.neqB Try.runUnderlying4 rfl rfl)) rfl ?_
      refine OQ.ex rfl (fun w H => (Ex.pick_f rfl rfl)) rfl ?_
      refine OQ.done ?_
      refine hK25 _ _ _ ?_
      refine W.known_f rfl (by first | exact decide_eq_false k1 | exact decide_eq_false k2 | exact k3 | exact decide_eq_false (fun hh => hh k4) | exact decide_eq_false (fun hh => hh k5) | exact decide_eq_false (fun hh => hh k6) | exact decide_eq_false (fun hh => hh k0) | rfl | decide) ?_
      refine W.skip ?_
      refine hK24 _ _ _ ?_
      refine W.region ?_
      refine O.ex (Ex.move rfl) rfl ?_
      refine O.ex (by first | exact Ex.addI rfl rfl | exact Ex.add rfl rfl rfl) rfl ?_
      refine O.ex (Ex.assign rfl) rfl ?_
      refine O.nil ?_
      exact ⟨v + 1, ⟨rfl, rfl, rfl, rfl, rfl, rfl, trivial⟩, ⟨rfl, by omega, Holds.to (by assumption)⟩, by omega⟩
    · refine W.exit ?_
      refine hK20 _ _ _ ?_
      refine W.seq (fun K26 hK26 => ?_)
      refine W.region ?_
      refine O.ex (Ex.assign rfl) rfl ?_
      refine O.nil ?_
      refine hK26 _ _ _ ?_
      refine W.ret ?_
      try dsimp only [thenQ, blockQ, retQ]
      first | refine ⟨_, ⟨_, _, rfl, rfl, rfl⟩, ?_⟩ | (refine retD_mark ?_; intro w H; refine ⟨_, ⟨_, _, rfl, rfl, rfl⟩, ?_⟩) | (refine retD_mark2 ?_; intro w H; refine ⟨_, ⟨_, _, rfl, rfl, rfl⟩, ?_⟩)
      exact ⟨rfl, Holds.base_below (L := []) (Holds.to (by assumption))⟩
theorem witnessFar_row {w0 : World} {q z : Int} {lv : Value} {l : List Step} (hq : (Lit.int .u8 q).wf = true) (hx : SlIn w0 3 Step.enc lv l) (hg : ∀ x ∈ l, x.ok) (hl : l.length ≤ maxLen) (hz : (Lit.int .u8 z).wf = true) :
    CT Try.prog 8 [.int .u8 q, lv, .int .u8 z] w0 fun x w' => x = .bool true ∧ RowKit.Below w0.heap.size w0 w' := by
  obtain ⟨z0, z1⟩ := bounds_u8 hz
  exact witnessFar_ct hq hx (by unfold maxLen at hl; omega) z0 z1
end Go.Proofs.Ytblapiiinbppiaa
