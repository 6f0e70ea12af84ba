import Derived.Test.YtliofdfhimmjmaaNear5
import Derived.Test.YtliofdfhimmjmaaRrBase
--ARR
--INF
--DEEP
namespace Go.Proofs.Ytliofdfhimmjmaa
open Go.Rr Go Gr Hp
set_option linter.unusedVariables false
set_option linter.unusedSimpArgs false
theorem nfromG_ct {w : World} {g : Nat} {n most v : Int} {s : St} {L : List HProp} (hg : GOk n most s) (h0 : 0 ≤ v) (h1 : v < n) (H : Holds w (Gh g n most s :: L)) :
    CT Try.prog 20 [.pointer (some ⟨g, 0, none⟩), .int .i64 v] w fun u w' => ∃ fv, u = .tuple #[fv, .int .i64 0] ∧ fv.oneCell' = true ∧ Holds w' (arr 3 (Value.int .i64) fv (farL n (cG s) v.toNat) :: Gh g n most s :: L) :=
  (nfrom_ct hg H).mono fun u w' hh => by
    rcases hh with ⟨hno, _⟩ | ⟨_, fv, e, ho, H⟩
    · exact absurd ⟨h0, h1⟩ hno
    · exact ⟨fv, e, ho, H⟩
def nw1 : St := insS 3 4 noS 4 ⟨0, 1, 5, false⟩
def nw2 : St := insS 3 4 nw1 2 ⟨1, 2, 5, false⟩
def nw3 : St := insS 3 4 nw2 1 ⟨0, 2, 11, false⟩
theorem nw_far : farL 3 (cG nw3) 0 = [0, 5, 10] := by decide +kernel
theorem nw_f : fG 3 nw3 0 2 = 10 := by decide +kernel
theorem nw_g : fG 3 nw3 2 0 = 4611686018427387906 := by decide +kernel
theorem nw_p0 : pv nw3 (tG 3 nw3 0) 2 0 ≠ 0 := by decide +kernel
theorem nw_p1 : pv nw3 (tG 3 nw3 0) 2 1 ≠ 0 := by decide +kernel
theorem nw_p2 : pv nw3 (tG 3 nw3 0) 2 2 = 0 := by decide +kernel
theorem nw_i : (pid nw3 (tG 3 nw3 0) 2 2).reverse = [4, 2] := by decide +kernel
theorem nw_k {k : Nat} (h : ∀ j, j < k → pv nw3 (tG 3 nw3 0) 2 j ≠ 0) (he : pv nw3 (tG 3 nw3 0) 2 k = 0) : k = 2 := by
  have h2 : ¬ 2 < k := fun h2 => h 2 h2 nw_p2
  have h0 : k ≠ 0 := fun e => nw_p0 (e ▸ he)
  have h1 : k ≠ 1 := fun e => nw_p1 (e ▸ he)
  omega
set_option maxHeartbeats 2000000 in
theorem awake10_ct {w : World} {L : List HProp} (H : Holds w L) : CT Try.prog 10 [] w fun u w' => u = .bool true ∧ Holds w' L := by
  have g0 : GOk 3 4 noS := ok_none (by omega) (by omega) (by omega) (by omega)
  have g1 : GOk 3 4 nw1 := ok_ins g0 _ _
  have g2 : GOk 3 4 nw2 := ok_ins g1 _ _
  have g3 : GOk 3 4 nw3 := ok_ins g2 _ _
  refine CT.enter (N := 67) Try.func10 rfl rfl rfl rfl ?_
  refine W.seq (fun K0 hK0 => ?_)
  refine W.region ?_
  refine O.ex (Ex.assign rfl) rfl ?_
  refine O.nil ?_
  refine hK0 _ _ _ ?_
  refine W.seq (fun K1 hK1 => ?_)
  refine W.region ?_
  refine O.callF Try.call34 rfl rfl (CT.mono (gnew_ct (n := 3) (most := 4) (by assumption)) ?_)
  rintro _ w (⟨hno, -⟩ | ⟨-, g, rfl, H⟩)
  · exact absurd ⟨⟨by omega, by omega⟩, by omega, by omega⟩ hno
  refine O.ex (Ex.move rfl) rfl ?_
  refine O.ex (Ex.extract rfl rfl) rfl ?_
  refine O.ex (Ex.extract rfl rfl) rfl ?_
  refine O.ex (Ex.assign rfl) rfl ?_
  refine O.ex (Ex.assign rfl) rfl ?_
  refine O.nil ?_
  refine hK1 _ _ _ ?_
  refine W.seq (fun K2 hK2 => ?_)
  refine W.seq (fun K3 hK3 => ?_)
  refine W.region ?_
  refine O.ex (Ex.move rfl) rfl ?_
  refine O.ex (Ex.nilEq Try.runUnderlying24 rfl rfl) rfl ?_
  refine O.nil ?_
  refine hK3 _ _ _ ?_
  refine W.known_f rfl (by first | rfl | decide | exact decide_eq_true rfl) ?_
  refine W.skip ?_
  refine hK2 _ _ _ ?_
  refine W.seq (fun K4 hK4 => ?_)
  refine W.region ?_
  refine O.ex (Ex.move rfl) rfl ?_
  refine O.ex (Ex.build rfl (bld42_0_1_2 _ _ _ (by first | rfl | assumption) (by first | rfl | assumption) (by first | rfl | assumption))) rfl ?_
  refine O.callF Try.call35 rfl rfl (CT.mono (ginsert_ct (a := ⟨0, 1, 5, false⟩) g0 (Holds.to (by assumption))) ?_)
  rintro _ w ⟨-, H⟩
  have H : Holds w (Gh g 3 4 nw1 :: L) := Holds.to H
  refine O.nil ?_
  refine hK4 _ _ _ ?_
  refine W.seq (fun K5 hK5 => ?_)
  refine W.region ?_
  refine O.ex (Ex.move rfl) rfl ?_
  refine O.ex (Ex.build rfl (bld42_0_1_2 _ _ _ (by first | rfl | assumption) (by first | rfl | assumption) (by first | rfl | assumption))) rfl ?_
  refine O.callF Try.call35 rfl rfl (CT.mono (ginsert_ct (a := ⟨1, 2, 5, false⟩) g1 (Holds.to (by assumption))) ?_)
  rintro _ w ⟨-, H⟩
  have H : Holds w (Gh g 3 4 nw2 :: L) := Holds.to H
  refine O.nil ?_
  refine hK5 _ _ _ ?_
  refine W.seq (fun K6 hK6 => ?_)
  refine W.region ?_
  refine O.ex (Ex.move rfl) rfl ?_
  refine O.ex (Ex.build rfl (bld42_0_1_2 _ _ _ (by first | rfl | assumption) (by first | rfl | assumption) (by first | rfl | assumption))) rfl ?_
  refine O.callF Try.call35 rfl rfl (CT.mono (ginsert_ct (a := ⟨0, 2, 11, false⟩) g2 (Holds.to (by assumption))) ?_)
  rintro _ w ⟨-, H⟩
  have H : Holds w (Gh g 3 4 nw3 :: L) := Holds.to H
  refine O.nil ?_
  refine hK6 _ _ _ ?_
  refine W.seq (fun K7 hK7 => ?_)
  refine W.region ?_
  refine O.ex (Ex.move rfl) rfl ?_
  refine O.callF Try.call20 rfl rfl (CT.mono (nfromG_ct g3 (by omega) (by omega) (Holds.to (by assumption))) ?_)
  rintro _ w ⟨fv, rfl, hfv, H⟩
  rw [show ((0 : Int)).toNat = 0 from rfl, nw_far] at H
  refine O.ex (Ex.move rfl) rfl ?_
  refine O.ex (Ex.extract rfl rfl) rfl ?_
  refine O.ex (Ex.extract rfl rfl) rfl ?_
  refine O.ex (Ex.assign rfl) rfl ?_
  refine O.ex (Ex.assign rfl) rfl ?_
  refine O.nil ?_
  refine hK7 _ _ _ ?_
  refine W.seq (fun K8 hK8 => ?_)
  refine W.region ?_
  refine O.ex (Ex.move rfl) rfl ?_
  refine O.callF Try.call12 rfl rfl (CT.mono (npath_ct (v := 0) (t := 2) g3 (Holds.to (M := Gh g 3 4 nw3 :: _) (by assumption))) ?_)
  rintro _ w (⟨hno, -⟩ | ⟨-, hN, -⟩ | ⟨-, hF, -⟩ | ⟨-, -, ov, k, hk1, hk2, rfl, hov, H⟩)
  · exact absurd ⟨⟨by omega, by omega⟩, by omega, by omega⟩ hno
  · exact absurd ((show fG 3 nw3 0 2 = 4611686018427387906 from hN).symm.trans nw_f) (by decide)
  · exact absurd ((show fG 3 nw3 0 2 = 4611686018427387905 from hF).symm.trans nw_f) (by decide)
  obtain rfl := nw_k hk1 hk2
  rw [show ((0 : Int)).toNat = 0 from rfl, nw_i] at H
  rw [show fG 3 nw3 ((0 : Int)).toNat 2 = 10 from nw_f]
  refine O.ex (Ex.move rfl) rfl ?_
  refine O.ex (Ex.extract rfl rfl) rfl ?_
  refine O.ex (Ex.extract rfl rfl) rfl ?_
  refine O.ex (Ex.extract rfl rfl) rfl ?_
  refine O.ex (Ex.assign rfl) rfl ?_
  refine O.ex (Ex.assign rfl) rfl ?_
  refine O.ex (Ex.assign rfl) rfl ?_
  refine O.nil ?_
  refine hK8 _ _ _ ?_
  refine W.seq (fun K9 hK9 => ?_)
  refine W.region ?_
  refine O.ex (Ex.move rfl) rfl ?_
  refine O.callF Try.call12 rfl rfl (CT.mono (npath_ct (v := 2) (t := 0) g3 (Holds.to (M := Gh g 3 4 nw3 :: _) (by assumption))) ?_)
  rintro _ w (⟨hno, -⟩ | ⟨-, hN, rfl, H⟩ | ⟨-, hF, -⟩ | ⟨-, hm, -⟩)
  · exact absurd ⟨⟨by omega, by omega⟩, by omega, by omega⟩ hno
  rotate_left
  · exact absurd ((show fG 3 nw3 2 0 = 4611686018427387905 from hF).symm.trans nw_g) (by decide)
  · have hm' : fG 3 nw3 2 0 ≤ 4611686018427387904 := hm
    rw [nw_g] at hm'; omega
  refine O.ex (Ex.move rfl) rfl ?_
  refine O.ex (Ex.extract rfl rfl) rfl ?_
  refine O.ex (Ex.extract rfl rfl) rfl ?_
  refine O.ex (Ex.extract rfl rfl) rfl ?_
  refine O.ex (Ex.assign rfl) rfl ?_
  refine O.ex (Ex.assign rfl) rfl ?_
  refine O.ex (Ex.assign rfl) rfl ?_
  refine O.nil ?_
  refine hK9 _ _ _ ?_
  refine W.seq (fun K10 hK10 => ?_)
  refine W.region ?_
  refine O.ex (Ex.move rfl) rfl ?_
  refine O.buildK (e := Value.int .i64) (vs := [(0, .int .i64 0), (1, .int .i64 5), (2, .int .i64 10)]) [0, 5, 10] Try.runUnderlying28 Try.sizeOf3 Try.zeroValue3 rfl rfl rfl rfl rfl rfl (fun v44 w hv44 H => ?_)
  refine O.callF Try.call15 rfl rfl (CT.mono (nints_ct (xs := [0, 5, 10]) (S1 := arr 3 (Value.int .i64) fv [0, 5, 10]) (S2 := arr 3 (Value.int .i64) v44 [0, 5, 10]) Rd.ofArr Rd.ofArr (by decide) (Holds.to (by assumption))) ?_)
  rintro _ w ⟨rfl, H⟩
  refine O.ex (Ex.move rfl) rfl ?_
  refine O.known (t := 46) (c := true) rfl (by first | rfl | decide | exact decide_eq_true rfl) ?_
  refine O.guard_t rfl rfl ?_
  refine O.ex (Ex.move rfl) rfl ?_
  refine O.guard_t rfl rfl ?_
  refine O.ex (Ex.eqlI rfl rfl) rfl ?_
  refine O.ex (Ex.pick_t rfl rfl) rfl ?_
  refine O.ex (Ex.move rfl) rfl ?_
  refine O.known (t := 50) (c := true) rfl (by first | rfl | decide | exact decide_eq_true rfl) ?_
  refine O.guard_t rfl rfl ?_
  refine O.ex (Ex.move rfl) rfl ?_
  refine O.guard_t rfl rfl ?_
  refine O.buildK (e := Value.int .i64) (vs := [(0, .int .i64 4), (1, .int .i64 2)]) [4, 2] Try.runUnderlying28 Try.sizeOf3 Try.zeroValue3 rfl rfl rfl rfl rfl rfl (fun v52 w hv52 H => ?_)
  refine O.guard_t rfl rfl ?_
  refine O.callF Try.call15 rfl rfl (CT.mono (nints_ct (xs := [4, 2]) (S1 := arr 3 (Value.int .i64) ov [4, 2]) (S2 := arr 3 (Value.int .i64) v52 [4, 2]) Rd.ofArr Rd.ofArr (by decide) (Holds.to (by assumption))) ?_)
  rintro _ w ⟨rfl, H⟩
  refine O.ex (Ex.pick_t rfl rfl) rfl ?_
  refine O.ex (Ex.move rfl) rfl ?_
  refine O.known (t := 55) (c := true) rfl (by first | rfl | decide | exact decide_eq_true rfl) ?_
  refine O.guard_t rfl rfl ?_
  refine O.ex (Ex.move rfl) rfl ?_
  refine O.guard_t rfl rfl ?_
  refine O.ex (Ex.eqlI rfl rfl) rfl ?_
  refine O.ex (Ex.pick_t rfl rfl) rfl ?_
  refine O.ex (Ex.move rfl) rfl ?_
  refine O.known (t := 59) (c := true) rfl (by first | rfl | decide | exact decide_eq_true rfl) ?_
  refine O.guard_t rfl rfl ?_
  refine O.ex (Ex.move rfl) rfl ?_
  refine O.guard_t rfl rfl ?_
  refine O.ex (Ex.eqlI rfl rfl) rfl ?_
  refine O.ex (Ex.pick_t rfl rfl) rfl ?_
  refine O.ex (Ex.move rfl) rfl ?_
  refine O.known (t := 63) (c := true) rfl (by first | rfl | decide | exact decide_eq_true rfl) ?_
  refine O.guard_t rfl rfl ?_
  refine O.ex (Ex.move rfl) rfl ?_
  refine O.guard_t rfl rfl ?_
  refine O.ex (Ex.eqlI rfl rfl) rfl ?_
  refine O.ex (Ex.pick_t rfl rfl) rfl ?_
  refine O.ex (Ex.assign rfl) rfl ?_
  refine O.nil ?_
  refine hK10 _ _ _ ?_
  refine W.ret ?_
  try dsimp only [thenQ, blockQ, retQ]
  first | refine ⟨_, ⟨_, _, rfl, rfl, rfl⟩, ?_⟩ | (refine retD_mark ?_; intro w H; refine ⟨_, ⟨_, _, rfl, rfl, rfl⟩, ?_⟩) | (refine retD_mark2 ?_; intro w H; refine ⟨_, ⟨_, _, rfl, rfl, rfl⟩, ?_⟩)
  exact ⟨rfl, Holds.to (by assumption)⟩
end Go.Proofs.Ytliofdfhimmjmaa
