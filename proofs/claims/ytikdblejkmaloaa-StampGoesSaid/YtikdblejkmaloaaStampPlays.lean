import Derived.Test.YtikdblejkmaloaaAlike
import Derived.Test.YtikdblejkmaloaaRrRow
namespace Go.Proofs.Ytikdblejkmaloaa
open Go.Rr Go
set_option linter.unusedVariables false
theorem awake05_ct {w : World} {L : List HProp} (H : Holds w L) : CT Try.prog 10 [] w fun u w' => u = .bool true ∧ Holds w' L := by
  refine CT.enter (N := 78) Try.func10 rfl rfl rfl rfl ?_
  refine W.seq (fun K0 hK0 => ?_)
  refine W.region ?_
  refine O.ex (Ex.assign rfl) rfl ?_
  refine O.nil ?_
  refine hK0 _ _ _ ?_
  refine W.seq (fun K1 hK1 => ?_)
  refine W.region ?_
  refine O.callF Try.call11 rfl rfl (CT.mono (newI_ct (n := 3) (by assumption)) ?_)
  rintro _ w (⟨hx, -⟩ | ⟨-, r1, rfl, H⟩)
  · exact absurd (by omega) hx
  refine O.ex (Ex.move rfl) rfl ?_
  refine O.ex (Ex.extract rfl rfl) rfl ?_
  refine O.ex (Ex.extract rfl rfl) rfl ?_
  refine O.ex (Ex.assign rfl) rfl ?_
  refine O.ex (Ex.assign rfl) rfl ?_
  refine O.nil ?_
  refine hK1 _ _ _ ?_
  refine W.seq (fun K2 hK2 => ?_)
  refine W.region ?_
  refine O.callF Try.call11 rfl rfl (CT.mono (newI_ct (n := 65) (by assumption)) ?_)
  rintro _ w (⟨-, rfl, H⟩ | ⟨hx, -⟩)
  rotate_left
  · exact absurd hx (by omega)
  refine O.ex (Ex.move rfl) rfl ?_
  refine O.ex (Ex.extract rfl rfl) rfl ?_
  refine O.ex (Ex.extract rfl rfl) rfl ?_
  refine O.ex (Ex.assign rfl) rfl ?_
  refine O.ex (Ex.assign rfl) rfl ?_
  refine O.nil ?_
  refine hK2 _ _ _ ?_
  refine W.seq (fun K3 hK3 => ?_)
  refine W.seq (fun K4 hK4 => ?_)
  refine W.region ?_
  refine O.ex (Ex.move rfl) rfl ?_
  refine O.ex (Ex.nilEq Try.runUnderlying24 rfl rfl) rfl ?_
  refine O.ex (Ex.move rfl) rfl ?_
  refine O.known (t := 22) (c := false) rfl (by first | rfl | decide) ?_
  refine O.guard_t rfl rfl ?_
  refine O.ex (Ex.move rfl) rfl ?_
  refine O.guard_t rfl rfl ?_
  refine O.ex (Ex.neqI rfl rfl) rfl ?_
  refine O.ex (Ex.pick_f rfl rfl) rfl ?_
  refine O.ex (Ex.move rfl) rfl ?_
  refine O.known (t := 26) (c := false) rfl (by first | rfl | decide) ?_
  refine O.guard_t rfl rfl ?_
  refine O.ex (Ex.move rfl) rfl ?_
  refine O.guard_t rfl rfl ?_
  refine O.ex (Ex.neqI rfl rfl) rfl ?_
  refine O.ex (Ex.pick_f rfl rfl) rfl ?_
  refine O.nil ?_
  refine hK4 _ _ _ ?_
  refine W.known_f rfl (by first | rfl | decide) ?_
  refine W.skip ?_
  refine hK3 _ _ _ ?_
  refine W.seq (fun K5 hK5 => ?_)
  refine W.region ?_
  refine O.ex (Ex.move rfl) rfl ?_
  refine O.callF Try.call13 rfl rfl (CT.mono (setI_ct (Holds.to (by assumption)) (by decide) (by decide) (by decide)) ?_)
  rintro _ w ⟨rfl, H⟩
  refine O.ex (Ex.assign rfl) rfl ?_
  refine O.nil ?_
  refine hK5 _ _ _ ?_
  refine W.seq (fun K6 hK6 => ?_)
  refine W.region ?_
  refine O.ex (Ex.move rfl) rfl ?_
  refine O.callF Try.call13 rfl rfl (CT.mono (setI_ct (Holds.to (by assumption)) (by decide) (by decide) (by decide)) ?_)
  rintro _ w ⟨rfl, H⟩
  refine O.ex (Ex.assign rfl) rfl ?_
  refine O.nil ?_
  refine hK6 _ _ _ ?_
  refine W.seq (fun K7 hK7 => ?_)
  refine W.region ?_
  refine O.ex (Ex.move rfl) rfl ?_
  refine O.callF Try.call43 rfl rfl (CT.mono (getI_ct (Holds.to (by assumption)) (by decide)) ?_)
  rintro _ w ⟨rfl, H⟩
  refine O.ex (Ex.move rfl) rfl ?_
  refine O.ex (Ex.extract rfl rfl) rfl ?_
  refine O.ex (Ex.extract rfl rfl) rfl ?_
  refine O.ex (Ex.assign rfl) rfl ?_
  refine O.ex (Ex.assign rfl) rfl ?_
  refine O.nil ?_
  refine hK7 _ _ _ ?_
  refine W.seq (fun K8 hK8 => ?_)
  refine W.region ?_
  refine O.ex (Ex.move rfl) rfl ?_
  refine O.callF Try.call44 rfl rfl (CT.mono (lenI_ct (Holds.to (by assumption))) ?_)
  rintro _ w ⟨rfl, H⟩
  refine O.ex (Ex.assign rfl) rfl ?_
  refine O.nil ?_
  refine hK8 _ _ _ ?_
  refine W.seq (fun K9 hK9 => ?_)
  refine W.region ?_
  refine O.ex (Ex.move rfl) rfl ?_
  refine O.callF Try.call16 rfl rfl (CT.mono (clearI_ct (Holds.to (by assumption)) (by decide) (by decide)) ?_)
  rintro _ w ⟨rfl, H⟩
  refine O.nil ?_
  refine hK9 _ _ _ ?_
  refine W.seq (fun K10 hK10 => ?_)
  refine W.region ?_
  refine O.ex (Ex.move rfl) rfl ?_
  refine O.callF Try.call43 rfl rfl (CT.mono (getI_ct (Holds.to (by assumption)) (by decide)) ?_)
  rintro _ w ⟨rfl, H⟩
  refine O.ex (Ex.move rfl) rfl ?_
  refine O.ex (Ex.extract rfl rfl) rfl ?_
  refine O.ex (Ex.extract rfl rfl) rfl ?_
  refine O.ex (Ex.assign rfl) rfl ?_
  refine O.ex (Ex.assign rfl) rfl ?_
  refine O.nil ?_
  refine hK10 _ _ _ ?_
  refine W.seq (fun K11 hK11 => ?_)
  refine W.region ?_
  refine O.ex (Ex.move rfl) rfl ?_
  refine O.ex (Ex.eqlI rfl rfl) rfl ?_
  refine O.ex (Ex.move rfl) rfl ?_
  refine O.known (t := 50) (c := true) rfl (by first | rfl | decide) ?_
  refine O.guard_t rfl rfl ?_
  refine O.ex (Ex.move rfl) rfl ?_
  refine O.guard_t rfl rfl ?_
  refine O.ex (Ex.eqlI rfl rfl) rfl ?_
  refine O.ex (Ex.pick_t rfl rfl) rfl ?_
  refine O.ex (Ex.move rfl) rfl ?_
  refine O.known (t := 54) (c := true) rfl (by first | rfl | decide) ?_
  refine O.guard_t rfl rfl ?_
  refine O.ex (Ex.move rfl) rfl ?_
  refine O.guard_t rfl rfl ?_
  refine O.ex (Ex.eqlI rfl rfl) rfl ?_
  refine O.ex (Ex.pick_t rfl rfl) rfl ?_
  refine O.ex (Ex.move rfl) rfl ?_
  refine O.known (t := 58) (c := true) rfl (by first | rfl | decide) ?_
  refine O.guard_t rfl rfl ?_
  refine O.ex (Ex.move rfl) rfl ?_
  refine O.ex (Ex.pick_t rfl rfl) rfl ?_
  refine O.ex (Ex.move rfl) rfl ?_
  refine O.known (t := 61) (c := true) rfl (by first | rfl | decide) ?_
  refine O.guard_t rfl rfl ?_
  refine O.ex (Ex.move rfl) rfl ?_
  refine O.guard_t rfl rfl ?_
  refine O.ex (Ex.eqlI rfl rfl) rfl ?_
  refine O.ex (Ex.pick_t rfl rfl) rfl ?_
  refine O.ex (Ex.move rfl) rfl ?_
  refine O.known (t := 65) (c := true) rfl (by first | rfl | decide) ?_
  refine O.guard_t rfl rfl ?_
  refine O.ex (Ex.move rfl) rfl ?_
  refine O.guard_t rfl rfl ?_
  refine O.ex (Ex.eqlI rfl rfl) rfl ?_
  refine O.ex (Ex.pick_t rfl rfl) rfl ?_
  refine O.ex (Ex.move rfl) rfl ?_
  refine O.known (t := 69) (c := true) rfl (by first | rfl | decide) ?_
  refine O.guard_t rfl rfl ?_
  refine O.ex (Ex.move rfl) rfl ?_
  refine O.guard_t rfl rfl ?_
  refine O.ex (by first | exact Ex.notD rfl | exact Ex.not rfl) rfl ?_
  refine O.ex (Ex.pick_t rfl rfl) rfl ?_
  refine O.ex (Ex.move rfl) rfl ?_
  refine O.known (t := 73) (c := true) rfl (by first | rfl | decide) ?_
  refine O.guard_t rfl rfl ?_
  refine O.ex (Ex.move rfl) rfl ?_
  refine O.guard_t rfl rfl ?_
  refine O.callF Try.call44 rfl rfl (CT.mono (lenI_ct (Holds.to (by assumption))) ?_)
  rintro _ w ⟨rfl, H⟩
  refine O.guard_t rfl rfl ?_
  refine O.ex (Ex.eqlI rfl rfl) rfl ?_
  refine O.ex (Ex.pick_t rfl rfl) rfl ?_
  refine O.ex (Ex.assign rfl) rfl ?_
  refine O.nil ?_
  refine hK11 _ _ _ ?_
  refine W.ret ?_
  try dsimp only [thenQ, blockQ, retQ]
  first | refine ⟨_, ⟨_, _, rfl, rfl, rfl⟩, ?_⟩ | (refine retD_mark ?_; intro w H; refine ⟨_, ⟨_, _, rfl, rfl, rfl⟩, ?_⟩) | (refine retD_mark2 ?_; intro w H; refine ⟨_, ⟨_, _, rfl, rfl, rfl⟩, ?_⟩)
  exact ⟨by simp only [oneOf]; exact congrArg Value.bool (by decide), Holds.to (by assumption)⟩

structure ActM where
  f_Kind : Int
  f_At : Int
  f_V : Int
  f_Times : Int
  deriving Inhabited
def ActM.enc (x : ActM) : List Value := [.int .i64 x.f_Kind, .int .i64 x.f_At, .int .i64 x.f_V, .int .u16 x.f_Times]
def ActM.ok (x : ActM) : Prop := (Lit.int .i64 x.f_Kind).wf = true ∧ (Lit.int .i64 x.f_At).wf = true ∧ (Lit.int .i64 x.f_V).wf = true ∧ (Lit.int .u16 x.f_Times).wf = true
set_option maxRecDepth 100000 in
theorem ActM.elem : ElemOk Try.prog 32 ActM.enc ActM.ok := fun H enc w base spare held fuel cs x h => by
  obtain ⟨ys, n, _, _, hl, hys, hf⟩ := DataW.trod_struct Try.underlying32 h
  have hc : Try.prog.cellsOf 32 = 4 := by kernel_rfl
  rw [hc] at hl
  have c3 : Try.prog.cellsOf 3 = 1 := by kernel_rfl
  have c30 : Try.prog.cellsOf 30 = 1 := by kernel_rfl
  match cs, hl with
  | [a0, a1, a2, a3], _ =>
    have hys' : ys.length = 4 := hys
    have h0 : DataW.trod enc Try.prog w base spare held n 3 (([a0, a1, a2, a3].drop 0).take (Try.prog.cellsOf 3)) = ys[0]? := hf 0 _ rfl
    rw [List.getElem?_eq_getElem (by omega), c3] at h0
    simp only [List.drop_zero, List.take_succ_cons, List.take_zero] at h0
    have h1 : DataW.trod enc Try.prog w base spare held n 3 (([a0, a1, a2, a3].drop 1).take (Try.prog.cellsOf 3)) = ys[1]? := hf 1 _ rfl
    rw [List.getElem?_eq_getElem (by omega), c3] at h1
    simp only [List.drop_succ_cons, List.drop_zero, List.take_succ_cons, List.take_zero] at h1
    have h2 : DataW.trod enc Try.prog w base spare held n 3 (([a0, a1, a2, a3].drop 2).take (Try.prog.cellsOf 3)) = ys[2]? := hf 2 _ rfl
    rw [List.getElem?_eq_getElem (by omega), c3] at h2
    simp only [List.drop_succ_cons, List.drop_zero, List.take_succ_cons, List.take_zero] at h2
    have h3 : DataW.trod enc Try.prog w base spare held n 30 (([a0, a1, a2, a3].drop 3).take (Try.prog.cellsOf 30)) = ys[3]? := hf 3 _ rfl
    rw [List.getElem?_eq_getElem (by omega), c30] at h3
    simp only [List.drop_succ_cons, List.drop_zero, List.take_succ_cons, List.take_zero] at h3
    obtain ⟨m0, e0, _, w0⟩ := DataW.trod_int Try.underlying3 h0
    simp only [List.cons.injEq, and_true] at e0
    subst e0
    obtain ⟨m1, e1, _, w1⟩ := DataW.trod_int Try.underlying3 h1
    simp only [List.cons.injEq, and_true] at e1
    subst e1
    obtain ⟨m2, e2, _, w2⟩ := DataW.trod_int Try.underlying3 h2
    simp only [List.cons.injEq, and_true] at e2
    subst e2
    obtain ⟨m3, e3, _, w3⟩ := DataW.trod_int Try.underlying30 h3
    simp only [List.cons.injEq, and_true] at e3
    subst e3
    exact ⟨⟨m0, m1, m2, m3⟩, rfl, w0, w1, w2, w3⟩
theorem setR_ct {w : World} {r : Nat} {R : RowM Int} {M : RefM} {n : Nat} {i x : Int} {L : List HProp} (H : Holds w (RowI r R :: L)) (h : Rel R M n) (hn : n ≤ 64) :
    CT Try.prog 13 [.pointer (some ⟨r, 0, none⟩), .int .i64 i, .int .i64 x] w fun u w' => ((0 ≤ i ∧ i < n) ∧ u = .int .i64 0 ∧ Rel (R.set i x) (M.set i x) n ∧ Holds w' (RowI r (R.set i x) :: L)) ∨
      (¬ (0 ≤ i ∧ i < n) ∧ u = .int .i64 1 ∧ Holds w' (RowI r R :: L)) :=
  (setI_ct H (by rw [h.lv, h.lw]) h.n_le.1 (by have := h.n_le.2; omega)).mono fun u w' ⟨e, H⟩ => by
    by_cases hi : 0 ≤ i ∧ i < n
    · exact .inl ⟨hi, by rw [e, if_pos (by rw [h.lv]; exact hi)], h.set i x hi.1 hi.2, H⟩
    · refine .inr ⟨hi, by rw [e, if_neg (by rw [h.lv]; exact hi)], ?_⟩
      rw [show R.set i x = R from if_neg (by rw [h.lv]; exact hi)] at H
      exact H
set_option maxHeartbeats 1000000 in
theorem stampPlays_ct {w0 : World} {n : Int} {sv : Value} {sc : List ActM} (hs : SlIn w0 4 ActM.enc sv sc) (ht : ∀ x ∈ sc, x.ok) (hl : sc.length ≤ 9223372036854775807) :
    CT Try.prog 3 [.int .i64 n, sv] w0 fun u w' => u = .bool true ∧ RowKit.Below w0.heap.size w0 w' := by
  have H := Holds.base_refl w0
  refine CT.enter (N := 104) Try.func3 rfl rfl rfl rfl ?_
  refine W.seq (fun K0 hK0 => ?_)
  refine W.region ?_
  refine O.ex (Ex.assign rfl) rfl ?_
  refine O.nil ?_
  refine hK0 _ _ _ ?_
  refine W.seq (fun K1 hK1 => ?_)
  refine W.seq (fun K2 hK2 => ?_)
  refine W.region ?_
  refine O.callF Try.call10 rfl rfl (CT.mono (awake05_ct (by assumption)) ?_)
  rintro _ w ⟨rfl, H⟩
  refine O.ex (by first | exact Ex.notD rfl | exact Ex.not rfl) rfl ?_
  refine O.nil ?_
  refine hK2 _ _ _ ?_
  refine W.known_f rfl (by first | rfl | decide | exact decide_eq_true (by omega) | exact decide_eq_false (by omega)) ?_
  refine W.skip ?_
  refine hK1 _ _ _ ?_
  refine W.seq (fun K3 hK3 => ?_)
  refine W.region ?_
  refine O.ex (Ex.move rfl) rfl ?_
  refine O.callF Try.call11 rfl rfl (CT.mono (newI_ct (by assumption)) ?_)
  rintro _ w hx
  rcases hx with ⟨hn, rfl, H⟩ | ⟨hn, r, rfl, H⟩
  · refine O.ex (Ex.move rfl) rfl ?_
    refine O.ex (Ex.extract rfl rfl) rfl ?_
    refine O.ex (Ex.extract rfl rfl) rfl ?_
    refine O.ex (Ex.assign rfl) rfl ?_
    refine O.ex (Ex.assign rfl) rfl ?_
    refine O.nil ?_
    refine hK3 _ _ _ ?_
    refine W.seq (fun K4 hK4 => ?_)
    refine W.seq (fun K5 hK5 => ?_)
    refine W.region ?_
    refine O.ex (Ex.move rfl) rfl ?_
    refine O.ex (Ex.lss rfl rfl) rfl ?_
    refine O.ex (Ex.move rfl) rfl ?_
    first | refine O.split_p (t := 21) rfl (fun hneg => ?_) (fun hpos => ?_) | refine O.split (t := 21) rfl (fun hneg => ?_) (fun hpos => ?_)
    · refine O.guard_f rfl rfl rfl rfl ?_
      refine O.guard_f rfl rfl rfl rfl ?_
      refine O.ex (Ex.pick_t rfl rfl) rfl ?_
      refine O.nil ?_
      refine hK5 _ _ _ ?_
      refine W.cond_t rfl ?_
      refine W.seq (fun K6 hK6 => ?_)
      refine W.region ?_
      refine O.ex (Ex.move rfl) rfl ?_
      refine O.ex (Ex.nilEq Try.runUnderlying24 rfl rfl) rfl ?_
      refine O.ex (Ex.move rfl) rfl ?_
      refine O.known (t := 27) (c := true) rfl (by first | rfl | decide | exact decide_eq_true (by omega) | exact decide_eq_false (by omega)) ?_
      refine O.guard_t rfl rfl ?_
      refine O.ex (Ex.move rfl) rfl ?_
      refine O.guard_t rfl rfl ?_
      refine O.ex (Ex.eqlI rfl rfl) rfl ?_
      refine O.ex (Ex.pick_t rfl rfl) rfl ?_
      refine O.ex (Ex.assign rfl) rfl ?_
      refine O.nil ?_
      refine hK6 _ _ _ ?_
      refine W.ret ?_
      try dsimp only [thenQ, blockQ, retQ]
      first | refine ⟨_, ⟨_, _, rfl, rfl, rfl⟩, ?_⟩ | (refine retD_mark ?_; intro w H; refine ⟨_, ⟨_, _, rfl, rfl, rfl⟩, ?_⟩) | (refine retD_mark2 ?_; intro w H; refine ⟨_, ⟨_, _, rfl, rfl, rfl⟩, ?_⟩)
      exact ⟨by first | rfl | exact congrArg Value.bool (by decide), Holds.base_below (L := []) (Holds.to (by assumption))⟩
    · refine O.guard_t rfl rfl ?_
      refine O.ex (Ex.move rfl) rfl ?_
      refine O.guard_t rfl rfl ?_
      refine O.ex (Ex.gtr rfl rfl) rfl ?_
      refine O.ex (Ex.pick_f rfl rfl) rfl ?_
      refine O.nil ?_
      refine hK5 _ _ _ ?_
      refine W.known_t rfl (by first | rfl | decide | exact decide_eq_true (by omega) | exact decide_eq_false (by omega)) ?_
      refine W.seq (fun K7 hK7 => ?_)
      refine W.region ?_
      refine O.ex (Ex.move rfl) rfl ?_
      refine O.ex (Ex.nilEq Try.runUnderlying24 rfl rfl) rfl ?_
      refine O.ex (Ex.move rfl) rfl ?_
      refine O.known (t := 27) (c := true) rfl (by first | rfl | decide | exact decide_eq_true (by omega) | exact decide_eq_false (by omega)) ?_
      refine O.guard_t rfl rfl ?_
      refine O.ex (Ex.move rfl) rfl ?_
      refine O.guard_t rfl rfl ?_
      refine O.ex (Ex.eqlI rfl rfl) rfl ?_
      refine O.ex (Ex.pick_t rfl rfl) rfl ?_
      refine O.ex (Ex.assign rfl) rfl ?_
      refine O.nil ?_
      refine hK7 _ _ _ ?_
      refine W.ret ?_
      try dsimp only [thenQ, blockQ, retQ]
      first | refine ⟨_, ⟨_, _, rfl, rfl, rfl⟩, ?_⟩ | (refine retD_mark ?_; intro w H; refine ⟨_, ⟨_, _, rfl, rfl, rfl⟩, ?_⟩) | (refine retD_mark2 ?_; intro w H; refine ⟨_, ⟨_, _, rfl, rfl, rfl⟩, ?_⟩)
      exact ⟨by first | rfl | exact congrArg Value.bool (by decide), Holds.base_below (L := []) (Holds.to (by assumption))⟩
  · refine O.ex (Ex.move rfl) rfl ?_
    refine O.ex (Ex.extract rfl rfl) rfl ?_
    refine O.ex (Ex.extract rfl rfl) rfl ?_
    refine O.ex (Ex.assign rfl) rfl ?_
    refine O.ex (Ex.assign rfl) rfl ?_
    refine O.nil ?_
    refine hK3 _ _ _ ?_
    refine W.seq (fun K8 hK8 => ?_)
    refine W.seq (fun K9 hK9 => ?_)
    refine W.region ?_
    refine O.ex (Ex.move rfl) rfl ?_
    refine O.ex (Ex.lss rfl rfl) rfl ?_
    refine O.ex (Ex.move rfl) rfl ?_
    refine O.known (t := 21) (c := false) rfl (by first | rfl | decide | exact decide_eq_true (by omega) | exact decide_eq_false (by omega)) ?_
    refine O.guard_t rfl rfl ?_
    refine O.ex (Ex.move rfl) rfl ?_
    refine O.guard_t rfl rfl ?_
    refine O.ex (Ex.gtr rfl rfl) rfl ?_
    refine O.ex (Ex.pick_f rfl rfl) rfl ?_
    refine O.nil ?_
    refine hK9 _ _ _ ?_
    refine W.known_f rfl (by first | rfl | decide | exact decide_eq_true (by omega) | exact decide_eq_false (by omega)) ?_
    refine W.skip ?_
    refine hK8 _ _ _ ?_
    refine W.seq (fun K10 hK10 => ?_)
    refine W.seq (fun K11 hK11 => ?_)
    refine W.region ?_
    refine O.ex (Ex.move rfl) rfl ?_
    refine O.ex (Ex.nilEq Try.runUnderlying24 rfl rfl) rfl ?_
    refine O.ex (Ex.move rfl) rfl ?_
    refine O.known (t := 33) (c := false) rfl (by first | rfl | decide | exact decide_eq_true (by omega) | exact decide_eq_false (by omega)) ?_
    refine O.guard_t rfl rfl ?_
    refine O.ex (Ex.move rfl) rfl ?_
    refine O.guard_t rfl rfl ?_
    refine O.ex (Ex.neqI rfl rfl) rfl ?_
    refine O.ex (Ex.pick_f rfl rfl) rfl ?_
    refine O.nil ?_
    refine hK11 _ _ _ ?_
    refine W.known_f rfl (by first | rfl | decide | exact decide_eq_true (by omega) | exact decide_eq_false (by omega)) ?_
    refine W.skip ?_
    refine hK10 _ _ _ ?_
    refine W.seq (fun K12 hK12 => ?_)
    refine W.region ?_
    refine O.ex (Ex.move rfl) rfl ?_
    refine O.callF Try.call12 rfl rfl (CT.mono (refNew_ct (by assumption) (by omega) (by omega)) ?_)
    rintro _ w ⟨s, rfl, H⟩
    refine O.ex (Ex.assign rfl) rfl ?_
    refine O.nil ?_
    refine hK12 _ _ _ ?_
    refine W.seq (fun K13 hK13 => ?_)
    refine W.seq (fun K14 hK14 => ?_)
    refine W.region ?_
    refine O.ex (Ex.assign rfl) rfl ?_
    refine O.nil ?_
    refine hK14 _ _ _ ?_
    refine W.block ?_
    have hrel := Rel.new n.toNat
    refine W.loop (σ := Int × RowM Int × RefM) (fun z => [(1, sv), (5, .pointer (some ⟨r, 0, none⟩)), (7, .pointer (some ⟨s, 0, none⟩)), (8, .int .i64 z.1)]) (fun z ds w => ds = [] ∧ 0 ≤ z.1 ∧ Rel z.2.1 z.2.2 n.toNat ∧ Holds w [RowI r z.2.1, RefR s z.2.2, base w0]) (fun z => (sc.length - z.1).toNat) (0, RowM.new (0 : Int) n.toNat, RefM.new n.toNat) ⟨rfl, rfl, rfl, rfl, trivial⟩ ⟨rfl, by omega, hrel, Holds.to (by assumption)⟩ ?_
    rintro ⟨i, R, M⟩ _ w ⟨rfl, hi0, hrel, H⟩
    dsimp only at hi0 hrel H ⊢
    have hlV := hrel.lV
    refine W.seq (fun K15 hK15 => ?_)
    refine W.seq (fun K16 hK16 => ?_)
    refine W.region ?_
    refine O.ex (Ex.move rfl) rfl ?_
    refine O.ex (Ex.move rfl) rfl ?_
    refine O.ex (by first | exact Ex.lenN Try.runUnderlying22 rfl | exact Ex.lenIn Try.runUnderlying22 rfl | exact Ex.lenL Try.runUnderlying22 rfl | exact Ex.len rfl Try.runUnderlying22 rfl) rfl ?_
    refine O.ex (Ex.lss rfl rfl) rfl ?_
    refine O.ex (Ex.move rfl) rfl ?_
    first | refine O.split_p (t := 43) rfl (fun hlt => ?_) (fun hge => ?_) | refine O.split (t := 43) rfl (fun hlt => ?_) (fun hge => ?_)
    · refine O.guard_t rfl rfl ?_
      refine O.ex (Ex.move rfl) rfl ?_
      refine O.guard_t rfl rfl ?_
      refine O.ex (Ex.lss rfl rfl) rfl ?_
      refine O.ex (Ex.pick_t rfl rfl) rfl ?_
      refine O.nil ?_
      refine hK16 _ _ _ ?_
      first | refine W.cond_p rfl (fun h60 => ?_) (fun h60' => ?_) | refine W.cond_b rfl (fun h60 => ?_) (fun h60' => ?_)
      · refine W.skip ?_
        refine hK15 _ _ _ ?_
        refine W.seq (fun K17 hK17 => ?_)
        refine W.block ?_
        refine W.seq (fun K18 hK18 => ?_)
        refine W.region ?_
        refine O.ex (Ex.move rfl) rfl ?_
        refine O.ex (Ex.move rfl) rfl ?_
        refine O.ex (by first | exact Ex.idxN Try.runUnderlying22 Try.sizeOf32 rfl rfl | exact Ex.idxSN Try.runUnderlying22 Try.sizeOf32 rfl rfl | exact Ex.idxIn Try.runUnderlying22 Try.sizeOf32 rfl rfl | exact Ex.idx Try.runUnderlying22 Try.sizeOf32 rfl rfl (by omega) (by omega)) rfl ?_
        refine O.ex (by first | exact Ex.loadAggP Try.isAgg32 Try.sizeOf32 rfl | exact Ex.loadAggN Try.isAgg32 Try.sizeOf32 rfl | exact Ex.loadIn Try.isAgg32 Try.sizeOf32 rfl (Holds.to (by assumption))) rfl ?_
        refine O.allocP Try.zeroValue32 (fun b9 w H => ?_)
        first | refine O.storeAggP Try.sizeOf32 rfl rfl rfl rfl (fun w H => ?_) | refine O.storeAggN Try.sizeOf32 rfl rfl rfl (fun w H => ?_) rfl
        refine O.nil ?_
        refine hK18 _ _ _ ?_
        refine W.seq (fun K19 hK19 => ?_)
        refine W.seq (fun K20 hK20 => ?_)
        refine W.region ?_
        refine O.ex (by first | exact Ex.field0 fld32_0 rfl | exact Ex.field fld32_0 rfl | exact Ex.fieldS fld32_0 rfl) rfl ?_
        refine O.ex (by first | exact Ex.loadP Try.isAgg3 rfl | exact Ex.loadR Try.isAgg3 rfl | exact Ex.loadIn1 Try.isAgg3 rfl (Holds.to (by assumption))) rfl ?_
        refine O.ex (Ex.eqlI rfl rfl) rfl ?_
        refine O.nil ?_
        refine hK20 _ _ _ ?_
        first | refine W.cond_p rfl (fun hk0 => ?_) (fun hk1 => ?_) | refine W.cond_b rfl (fun hk0 => ?_) (fun hk1 => ?_)
        · refine W.seq (fun K21 hK21 => ?_)
          refine W.region ?_
          refine O.ex (Ex.move rfl) rfl ?_
          refine O.ex (by first | exact Ex.field0 fld32_1 rfl | exact Ex.field fld32_1 rfl | exact Ex.fieldS fld32_1 rfl) rfl ?_
          refine O.ex (by first | exact Ex.loadP Try.isAgg3 rfl | exact Ex.loadR Try.isAgg3 rfl | exact Ex.loadIn1 Try.isAgg3 rfl (Holds.to (by assumption))) rfl ?_
          refine O.ex (by first | exact Ex.field0 fld32_2 rfl | exact Ex.field fld32_2 rfl | exact Ex.fieldS fld32_2 rfl) rfl ?_
          refine O.ex (by first | exact Ex.loadP Try.isAgg3 rfl | exact Ex.loadR Try.isAgg3 rfl | exact Ex.loadIn1 Try.isAgg3 rfl (Holds.to (by assumption))) rfl ?_
          refine O.callF Try.call13 rfl rfl (CT.mono (setR_ct (x := (sc.getD i.toNat default).f_V) (Holds.to (by assumption)) hrel (by omega)) ?_)
          rintro _ w hx
          rcases hx with ⟨hat, rfl, hrel', H⟩ | ⟨hat, rfl, H⟩
          · refine O.ex (Ex.assign rfl) rfl ?_
            refine O.nil ?_
            refine hK21 _ _ _ ?_
            refine W.seq (fun K22 hK22 => ?_)
            refine W.seq (fun K23 hK23 => ?_)
            refine W.region ?_
            refine O.ex (Ex.move rfl) rfl ?_
            refine O.ex (Ex.eqlI rfl rfl) rfl ?_
            refine O.ex (Ex.move rfl) rfl ?_
            refine O.ex (by first | exact Ex.field0 fld32_1 rfl | exact Ex.field fld32_1 rfl | exact Ex.fieldS fld32_1 rfl) rfl ?_
            refine O.ex (by first | exact Ex.loadP Try.isAgg3 rfl | exact Ex.loadR Try.isAgg3 rfl | exact Ex.loadIn1 Try.isAgg3 rfl (Holds.to (by assumption))) rfl ?_
            refine O.callF Try.call14 rfl rfl (CT.mono (refThere_t (M := M) (Holds.to (by assumption)) (by omega)) ?_)
            rintro _ w ⟨rfl, H⟩
            refine O.ex (Ex.neqB Try.runUnderlying4 rfl rfl) rfl ?_
            refine O.ex (Ex.move rfl) rfl ?_
            refine O.known (t := 69) (c := false) rfl (by first | rfl | decide | exact decide_eq_true (by omega) | exact decide_eq_false (by omega)) ?_
            refine O.guard_t rfl rfl ?_
            refine O.ex (Ex.move rfl) rfl ?_
            refine O.guard_t rfl rfl ?_
            refine O.ex (Ex.neqI rfl rfl) rfl ?_
            refine O.guard_t rfl rfl ?_
            refine O.ex (Ex.move rfl) rfl ?_
            refine O.known (t := 72) (c := false) rfl (by first | rfl | decide | exact decide_eq_true (by omega) | exact decide_eq_false (by omega)) ?_
            refine O.guard_f rfl rfl rfl rfl ?_
            refine O.guard_f rfl rfl rfl rfl ?_
            refine O.guard_t rfl rfl ?_
            refine O.ex (Ex.pick_f rfl rfl) rfl ?_
            refine O.ex (Ex.pick_f rfl rfl) rfl ?_
            refine O.nil ?_
            refine hK23 _ _ _ ?_
            refine W.cond_f rfl ?_
            refine W.skip ?_
            refine hK22 _ _ _ ?_
            refine W.seq (fun K24 hK24 => ?_)
            refine W.region ?_
            refine O.ex (Ex.move rfl) rfl ?_
            refine O.ex (Ex.eqlI rfl rfl) rfl ?_
            refine O.nil ?_
            refine hK24 _ _ _ ?_
            refine W.known_t rfl (by first | rfl | decide | exact decide_eq_true (by omega) | exact decide_eq_false (by omega)) ?_
            refine W.region ?_
            refine O.ex (Ex.move rfl) rfl ?_
            refine O.ex (by first | exact Ex.field0 fld32_1 rfl | exact Ex.field fld32_1 rfl | exact Ex.fieldS fld32_1 rfl) rfl ?_
            refine O.ex (by first | exact Ex.loadP Try.isAgg3 rfl | exact Ex.loadR Try.isAgg3 rfl | exact Ex.loadIn1 Try.isAgg3 rfl (Holds.to (by assumption))) rfl ?_
            refine O.ex (by first | exact Ex.field0 fld32_2 rfl | exact Ex.field fld32_2 rfl | exact Ex.fieldS fld32_2 rfl) rfl ?_
            refine O.ex (by first | exact Ex.loadP Try.isAgg3 rfl | exact Ex.loadR Try.isAgg3 rfl | exact Ex.loadIn1 Try.isAgg3 rfl (Holds.to (by assumption))) rfl ?_
            refine O.callF Try.call15 rfl rfl (CT.mono (refSet_ct (M := M) (Holds.to (by assumption)) (by rw [hrel.lI, hrel.lV]) hat.1 (by omega)) ?_)
            rintro _ w ⟨rfl, H⟩
            have hrel := hrel'
            refine O.nil ?_
            refine hK19 _ _ _ ?_
            refine W.seq (fun K25 hK25 => ?_)
            refine W.region ?_
            refine O.ex (Ex.move rfl) rfl ?_
            refine O.ex (Ex.move rfl) rfl ?_
            refine O.callF Try.call18 rfl rfl (CT.mono (alike_ct (Holds.to (by assumption)) hrel (by omega)) ?_)
            rintro _ w ⟨rfl, H⟩
            refine O.ex (by first | exact Ex.notD rfl | exact Ex.not rfl) rfl ?_
            refine O.nil ?_
            refine hK25 _ _ _ ?_
            refine W.known_f rfl (by first | rfl | decide | exact decide_eq_true (by omega) | exact decide_eq_false (by omega)) ?_
            refine W.skip ?_
            refine hK17 _ _ _ ?_
            refine W.region ?_
            refine O.ex (Ex.move rfl) rfl ?_
            refine O.ex (by first | exact Ex.addI rfl rfl | exact Ex.add rfl rfl rfl) rfl ?_
            refine O.ex (Ex.assign rfl) rfl ?_
            refine O.nil ?_
            exact ⟨(i + 1, _, _), ⟨rfl, rfl, rfl, rfl, trivial⟩, ⟨rfl, by omega, hrel, Holds.to (by assumption)⟩, by omega⟩
          · refine O.ex (Ex.assign rfl) rfl ?_
            refine O.nil ?_
            refine hK21 _ _ _ ?_
            refine W.seq (fun K26 hK26 => ?_)
            refine W.seq (fun K27 hK27 => ?_)
            refine W.region ?_
            refine O.ex (Ex.move rfl) rfl ?_
            refine O.ex (Ex.eqlI rfl rfl) rfl ?_
            refine O.ex (Ex.move rfl) rfl ?_
            refine O.ex (by first | exact Ex.field0 fld32_1 rfl | exact Ex.field fld32_1 rfl | exact Ex.fieldS fld32_1 rfl) rfl ?_
            refine O.ex (by first | exact Ex.loadP Try.isAgg3 rfl | exact Ex.loadR Try.isAgg3 rfl | exact Ex.loadIn1 Try.isAgg3 rfl (Holds.to (by assumption))) rfl ?_
            refine O.callF Try.call14 rfl rfl (CT.mono (refThere_f (M := M) (Holds.to (by assumption)) (by omega)) ?_)
            rintro _ w ⟨rfl, H⟩
            refine O.ex (Ex.neqB Try.runUnderlying4 rfl rfl) rfl ?_
            refine O.ex (Ex.move rfl) rfl ?_
            refine O.known (t := 69) (c := false) rfl (by first | rfl | decide | exact decide_eq_true (by omega) | exact decide_eq_false (by omega)) ?_
            refine O.guard_t rfl rfl ?_
            refine O.ex (Ex.move rfl) rfl ?_
            refine O.guard_t rfl rfl ?_
            refine O.ex (Ex.neqI rfl rfl) rfl ?_
            refine O.guard_t rfl rfl ?_
            refine O.ex (Ex.move rfl) rfl ?_
            refine O.known (t := 72) (c := true) rfl (by first | rfl | decide | exact decide_eq_true (by omega) | exact decide_eq_false (by omega)) ?_
            refine O.guard_t rfl rfl ?_
            refine O.ex (Ex.move rfl) rfl ?_
            refine O.guard_t rfl rfl ?_
            refine O.ex (Ex.neqI rfl rfl) rfl ?_
            refine O.guard_t rfl rfl ?_
            refine O.ex (Ex.pick_t rfl rfl) rfl ?_
            refine O.ex (Ex.pick_f rfl rfl) rfl ?_
            refine O.nil ?_
            refine hK27 _ _ _ ?_
            refine W.known_f rfl (by first | rfl | decide | exact decide_eq_true (by omega) | exact decide_eq_false (by omega)) ?_
            refine W.skip ?_
            refine hK26 _ _ _ ?_
            refine W.seq (fun K28 hK28 => ?_)
            refine W.region ?_
            refine O.ex (Ex.move rfl) rfl ?_
            refine O.ex (Ex.eqlI rfl rfl) rfl ?_
            refine O.nil ?_
            refine hK28 _ _ _ ?_
            refine W.known_f rfl (by first | rfl | decide | exact decide_eq_true (by omega) | exact decide_eq_false (by omega)) ?_
            refine W.skip ?_
            refine hK19 _ _ _ ?_
            refine W.seq (fun K29 hK29 => ?_)
            refine W.region ?_
            refine O.ex (Ex.move rfl) rfl ?_
            refine O.ex (Ex.move rfl) rfl ?_
            refine O.callF Try.call18 rfl rfl (CT.mono (alike_ct (Holds.to (by assumption)) hrel (by omega)) ?_)
            rintro _ w ⟨rfl, H⟩
            refine O.ex (by first | exact Ex.notD rfl | exact Ex.not rfl) rfl ?_
            refine O.nil ?_
            refine hK29 _ _ _ ?_
            refine W.known_f rfl (by first | rfl | decide | exact decide_eq_true (by omega) | exact decide_eq_false (by omega)) ?_
            refine W.skip ?_
            refine hK17 _ _ _ ?_
            refine W.region ?_
            refine O.ex (Ex.move rfl) rfl ?_
            refine O.ex (by first | exact Ex.addI rfl rfl | exact Ex.add rfl rfl rfl) rfl ?_
            refine O.ex (Ex.assign rfl) rfl ?_
            refine O.nil ?_
            exact ⟨(i + 1, _, _), ⟨rfl, rfl, rfl, rfl, trivial⟩, ⟨rfl, by omega, hrel, Holds.to (by assumption)⟩, by omega⟩
        · refine W.seq (fun K30 hK30 => ?_)
          refine W.region ?_
          refine O.ex (Ex.assign rfl) rfl ?_
          refine O.nil ?_
          refine hK30 _ _ _ ?_
          refine W.block ?_
          have hti := ht (sc.getD i.toNat default) (by rw [List.getD_eq_getElem?_getD, List.getElem?_eq_getElem (by omega)]; exact List.getElem_mem _)
          obtain ⟨ht0, ht1⟩ := bounds_u16 hti.2.2.2
          refine W.loop (σ := Int × RowM Int × RefM) (fun z => [(1, sv), (5, .pointer (some ⟨r, 0, none⟩)), (7, .pointer (some ⟨s, 0, none⟩)), (8, .int .i64 i), (9, .pointer (some ⟨b9, 0, none⟩)), (11, .int .i64 z.1)]) (fun z ds w => ds = [] ∧ 0 ≤ z.1 ∧ z.1 ≤ 601 ∧ Rel z.2.1 z.2.2 n.toNat ∧ Holds w [RowI r z.2.1, RefR s z.2.2, base w0, pt b9 _]) (fun z => (601 - z.1).toNat) (0, R, M) ⟨rfl, rfl, rfl, rfl, rfl, rfl, trivial⟩ ⟨rfl, by omega, by omega, hrel, Holds.to (by assumption)⟩ ?_
          clear hrel hlV
          rintro ⟨k, R, M⟩ _ w ⟨rfl, hk0, hk601, hrel, H⟩
          dsimp only at hk0 hk601 hrel H ⊢
          have hlV := hrel.lV
          refine W.seq (fun K31 hK31 => ?_)
          refine W.seq (fun K32 hK32 => ?_)
          refine W.region ?_
          refine O.ex (Ex.move rfl) rfl ?_
          refine O.ex (by first | exact Ex.field0 fld32_3 rfl | exact Ex.field fld32_3 rfl | exact Ex.fieldS fld32_3 rfl) rfl ?_
          refine O.ex (by first | exact Ex.loadP Try.isAgg30 rfl | exact Ex.loadR Try.isAgg30 rfl | exact Ex.loadIn1 Try.isAgg30 rfl (Holds.to (by assumption))) rfl ?_
          refine O.ex (by first | exact Ex.remI rfl rfl | exact Ex.rem rfl rfl (by omega) rfl) rfl ?_
          refine O.ex (by first | exact Ex.convToI Try.runUnderlying30 Try.runUnderlying3 rfl | exact Ex.convW Try.runUnderlying30 Try.runUnderlying3 rfl) rfl ?_
          refine O.ex (Ex.lss rfl rfl) rfl ?_
          refine O.nil ?_
          refine hK32 _ _ _ ?_
          first | refine W.cond_p rfl (fun h90 => ?_) (fun h90 => ?_) | refine W.cond_b rfl (fun h90 => ?_) (fun h90 => ?_)
          · refine W.skip ?_
            refine hK31 _ _ _ ?_
            refine W.seq (fun K33 hK33 => ?_)
            refine W.block ?_
            refine W.seq (fun K34 hK34 => ?_)
            refine W.region ?_
            refine O.ex (Ex.move rfl) rfl ?_
            refine O.callF Try.call16 rfl rfl (CT.mono (clearI_ct (Holds.to (by assumption)) (by have := hrel.now0; omega) hrel.now1) ?_)
            rintro _ w ⟨rfl, H⟩
            refine O.nil ?_
            refine hK34 _ _ _ ?_
            refine W.region ?_
            refine O.ex (Ex.move rfl) rfl ?_
            refine O.callF Try.call17 rfl rfl (CT.mono (refClear_ct (M := M) (Holds.to (by assumption)) (by omega)) ?_)
            rintro _ w ⟨rfl, H⟩
            refine O.nil ?_
            refine hK33 _ _ _ ?_
            refine W.region ?_
            refine O.ex (Ex.move rfl) rfl ?_
            refine O.ex (by first | exact Ex.addI rfl rfl | exact Ex.add rfl rfl rfl) rfl ?_
            refine O.ex (Ex.assign rfl) rfl ?_
            refine O.nil ?_
            exact ⟨(k + 1, _, _), ⟨rfl, rfl, rfl, rfl, rfl, rfl, trivial⟩, ⟨rfl, by omega, by omega, hrel.clear, Holds.to (by assumption)⟩, by omega⟩
          · refine W.exit ?_
            refine hK19 _ _ _ ?_
            refine W.seq (fun K35 hK35 => ?_)
            refine W.region ?_
            refine O.ex (Ex.move rfl) rfl ?_
            refine O.ex (Ex.move rfl) rfl ?_
            refine O.callF Try.call18 rfl rfl (CT.mono (alike_ct (Holds.to (by assumption)) hrel (by omega)) ?_)
            rintro _ w ⟨rfl, H⟩
            refine O.ex (by first | exact Ex.notD rfl | exact Ex.not rfl) rfl ?_
            refine O.nil ?_
            refine hK35 _ _ _ ?_
            refine W.known_f rfl (by first | rfl | decide | exact decide_eq_true (by omega) | exact decide_eq_false (by omega)) ?_
            refine W.skip ?_
            refine hK17 _ _ _ ?_
            refine W.region ?_
            refine O.ex (Ex.move rfl) rfl ?_
            refine O.ex (by first | exact Ex.addI rfl rfl | exact Ex.add rfl rfl rfl) rfl ?_
            refine O.ex (Ex.assign rfl) rfl ?_
            refine O.nil ?_
            exact ⟨(i + 1, _, _), ⟨rfl, rfl, rfl, rfl, trivial⟩, ⟨rfl, by omega, hrel, Holds.to (by assumption)⟩, by omega⟩
      · refine W.exit ?_
        refine hK13 _ _ _ ?_
        refine W.seq (fun K36 hK36 => ?_)
        refine W.region ?_
        refine O.ex (Ex.move rfl) rfl ?_
        refine O.ex (Ex.move rfl) rfl ?_
        refine O.callF Try.call18 rfl rfl (CT.mono (alike_ct (Holds.to (by assumption)) hrel (by omega)) ?_)
        rintro _ w ⟨rfl, H⟩
        refine O.ex (Ex.assign rfl) rfl ?_
        refine O.nil ?_
        refine hK36 _ _ _ ?_
        refine W.ret ?_
        try dsimp only [thenQ, blockQ, retQ]
        first | refine ⟨_, ⟨_, _, rfl, rfl, rfl⟩, ?_⟩ | (refine retD_mark ?_; intro w H; refine ⟨_, ⟨_, _, rfl, rfl, rfl⟩, ?_⟩) | (refine retD_mark2 ?_; intro w H; refine ⟨_, ⟨_, _, rfl, rfl, rfl⟩, ?_⟩)
        exact ⟨by first | rfl | exact congrArg Value.bool (by decide), Holds.base_below (L := []) (Holds.to (by assumption))⟩
    · refine O.guard_f rfl rfl rfl rfl ?_
      refine O.guard_f rfl rfl rfl rfl ?_
      refine O.ex (Ex.pick_f rfl rfl) rfl ?_
      refine O.nil ?_
      refine hK16 _ _ _ ?_
      refine W.cond_f rfl ?_
      refine W.exit ?_
      refine hK13 _ _ _ ?_
      refine W.seq (fun K37 hK37 => ?_)
      refine W.region ?_
      refine O.ex (Ex.move rfl) rfl ?_
      refine O.ex (Ex.move rfl) rfl ?_
      refine O.callF Try.call18 rfl rfl (CT.mono (alike_ct (Holds.to (by assumption)) hrel (by omega)) ?_)
      rintro _ w ⟨rfl, H⟩
      refine O.ex (Ex.assign rfl) rfl ?_
      refine O.nil ?_
      refine hK37 _ _ _ ?_
      refine W.ret ?_
      try dsimp only [thenQ, blockQ, retQ]
      first | refine ⟨_, ⟨_, _, rfl, rfl, rfl⟩, ?_⟩ | (refine retD_mark ?_; intro w H; refine ⟨_, ⟨_, _, rfl, rfl, rfl⟩, ?_⟩) | (refine retD_mark2 ?_; intro w H; refine ⟨_, ⟨_, _, rfl, rfl, rfl⟩, ?_⟩)
      exact ⟨by first | rfl | exact congrArg Value.bool (by decide), Holds.base_below (L := []) (Holds.to (by assumption))⟩

theorem stampPlays_row {w0 : World} {n : Int} {sv : Value} {sc : List ActM} (hw : (Lit.int .i64 n).wf = true) (hs : SlIn w0 4 ActM.enc sv sc) (ht : ∀ x ∈ sc, x.ok) (hl : sc.length ≤ maxLen) :
    CT Try.prog 3 [.int .i64 n, sv] w0 fun u w' => u = .bool true ∧ RowKit.Below w0.heap.size w0 w' :=
  stampPlays_ct hs ht (by unfold maxLen at hl; omega)
end Go.Proofs.Ytikdblejkmaloaa
