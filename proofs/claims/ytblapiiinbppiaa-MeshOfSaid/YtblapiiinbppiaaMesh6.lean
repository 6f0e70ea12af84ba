import Derived.Test.YtblapiiinbppiaaMesh5
import Derived.Test.YtblapiiinbppiaaRrBase
--ARR
namespace Go.Proofs.Ytblapiiinbppiaa
open Go.Rr Go
set_option linter.unusedVariables false
theorem same_ct {w : World} {m r : Nat} {n : Int} {c : Int → Int → Int} {L : List HProp} (hg : Good n c) (H : Holds w (Mh m n c :: Rh r n c :: L)) :
    CT Try.prog 24 [.pointer (some ⟨m, 0, none⟩), .pointer (some ⟨r, 0, none⟩)] w fun x w' => x = .bool true ∧ Holds w' (Mh m n c :: Rh r n c :: L) := by
  have n1 := hg.n1
  have n2 := hg.n2
  refine CT.enter (N := 39) Try.func24 rfl rfl rfl rfl ?_
  refine W.seq (fun K0 hK0 => ?_)
  refine W.region ?_
  refine O.ex (Ex.assign rfl) rfl ?_
  refine O.nil ?_
  refine hK0 _ _ _ ?_
  refine W.seq (fun K1 hK1 => ?_)
  refine W.seq (fun K2 hK2 => ?_)
  refine W.region ?_
  refine O.ex (Ex.assign rfl) rfl ?_
  refine O.nil ?_
  refine hK2 _ _ _ ?_
  refine W.block ?_
  refine W.loop (σ := Int) (fun u => [(0, .pointer (some ⟨m, 0, none⟩)), (1, .pointer (some ⟨r, 0, none⟩)), (5, .int .i64 u)]) (fun u ds w => ds = [] ∧ -1 ≤ u ∧ u ≤ n + 1 ∧ Holds w (Mh m n c :: Rh r n c :: L)) (fun u => (n + 1 - u).toNat) (-1) ⟨rfl, rfl, rfl, trivial⟩ ⟨rfl, by omega, by omega, Holds.to (by assumption)⟩ ?_
  clear H
  rintro u _ w ⟨rfl, hu0, hu1, H⟩
  refine W.seq (fun K3 hK3 => ?_)
  refine W.seq (fun K4 hK4 => ?_)
  refine W.region ?_
  refine O.ex (Ex.move rfl) rfl ?_
  have H := (rh_open (m := r) (n := n) (c := c)).1 (Holds.to (by assumption))
  refine O.ex (Ex.move rfl) rfl ?_
  refine O.ex (by first | exact Ex.nilPtr rfl | exact Ex.nilFunc rfl | exact Ex.nilYield rfl) rfl ?_
  refine O.ex (by first | exact Ex.field0 fld32_0 rfl | exact Ex.field fld32_0 rfl | exact Ex.fieldS fld32_0 rfl | exact Ex.fieldIn fld32_0 rfl) rfl ?_
  refine O.ex (by first | exact Ex.loadMh Try.isAgg3 rfl | exact Ex.loadInF Try.isAgg3 rfl (Holds.to (by assumption)) | exact Ex.loadP Try.isAgg3 rfl | exact Ex.loadM Try.isAgg3 rfl | exact Ex.loadIn1 Try.isAgg3 rfl (Holds.to (by assumption)) | exact Ex.loadVc Try.isAgg3 rfl | exact Ex.loadR Try.isAgg3 rfl | exact Ex.loadQ Try.isAgg3 rfl) rfl ?_
  refine O.ex (Ex.leq rfl rfl) rfl ?_
  refine O.nil ?_
  refine hK4 _ _ _ ?_
  first | refine W.cond_p rfl (fun hlt => ?_) (fun hge => ?_) | refine W.cond_b rfl (fun hlt => ?_) (fun hge => ?_)
  · refine W.skip ?_
    refine hK3 _ _ _ ?_
    refine W.seq (fun K5 hK5 => ?_)
    refine W.block ?_
    refine W.seq (fun K6 hK6 => ?_)
    refine W.region ?_
    refine O.ex (Ex.assign rfl) rfl ?_
    refine O.nil ?_
    refine hK6 _ _ _ ?_
    refine W.block ?_
    have H := (rh_open (m := r) (n := n) (c := c)).2 (Holds.to (by assumption))
    refine W.loop (σ := Int) (fun v => [(0, .pointer (some ⟨m, 0, none⟩)), (1, .pointer (some ⟨r, 0, none⟩)), (5, .int .i64 u), (6, .int .i64 v)]) (fun v ds w => ds = [] ∧ -1 ≤ v ∧ v ≤ n + 1 ∧ Holds w (Mh m n c :: Rh r n c :: L)) (fun v => (n + 1 - v).toNat) (-1) ⟨rfl, rfl, rfl, rfl, trivial⟩ ⟨rfl, by omega, by omega, Holds.to (by assumption)⟩ ?_
    clear H
    rintro v _ w ⟨rfl, hv0, hv1, H⟩
    refine W.seq (fun K7 hK7 => ?_)
    refine W.seq (fun K8 hK8 => ?_)
    refine W.region ?_
    refine O.ex (Ex.move rfl) rfl ?_
    have H := (rh_open (m := r) (n := n) (c := c)).1 (Holds.to (by assumption))
    refine O.ex (Ex.move rfl) rfl ?_
    refine O.ex (by first | exact Ex.nilPtr rfl | exact Ex.nilFunc rfl | exact Ex.nilYield rfl) rfl ?_
    refine O.ex (by first | exact Ex.field0 fld32_0 rfl | exact Ex.field fld32_0 rfl | exact Ex.fieldS fld32_0 rfl | exact Ex.fieldIn fld32_0 rfl) rfl ?_
    refine O.ex (by first | exact Ex.loadMh Try.isAgg3 rfl | exact Ex.loadInF Try.isAgg3 rfl (Holds.to (by assumption)) | exact Ex.loadP Try.isAgg3 rfl | exact Ex.loadM Try.isAgg3 rfl | exact Ex.loadIn1 Try.isAgg3 rfl (Holds.to (by assumption)) | exact Ex.loadVc Try.isAgg3 rfl | exact Ex.loadR Try.isAgg3 rfl | exact Ex.loadQ Try.isAgg3 rfl) rfl ?_
    refine O.ex (Ex.leq rfl rfl) rfl ?_
    refine O.nil ?_
    refine hK8 _ _ _ ?_
    first | refine W.cond_p rfl (fun hlt2 => ?_) (fun hge2 => ?_) | refine W.cond_b rfl (fun hlt2 => ?_) (fun hge2 => ?_)
    · refine W.skip ?_
      refine hK7 _ _ _ ?_
      refine W.seq (fun K9 hK9 => ?_)
      refine W.block ?_
      refine W.seq (fun K10 hK10 => ?_)
      refine W.region ?_
      have H := (rh_open (m := r) (n := n) (c := c)).2 (Holds.to (by assumption))
      refine O.ex (Ex.move rfl) rfl ?_
      refine O.ex (Ex.move rfl) rfl ?_
      refine O.ex (Ex.move rfl) rfl ?_
      refine O.callF Try.call19 rfl rfl (CT.mono (at_ct hg (Holds.to (by assumption))) ?_)
      rintro _ w ⟨rfl, H⟩
      refine O.ex (Ex.move rfl) rfl ?_
      refine O.ex (Ex.move rfl) rfl ?_
      refine O.ex (Ex.move rfl) rfl ?_
      refine O.callF Try.call54 rfl rfl (CT.mono (refAt_ct hg (Holds.to (by assumption))) ?_)
      rintro _ w ⟨rfl, H⟩
      refine O.ex (Ex.neqI rfl rfl) rfl ?_
      refine O.nil ?_
      refine hK10 _ _ _ ?_
      refine W.known_f rfl (decide_eq_false (fun hh => hh rfl)) ?_
      refine W.skip ?_
      refine hK9 _ _ _ ?_
      refine W.region ?_
      refine O.ex (Ex.move rfl) rfl ?_
      refine O.ex (by first | exact Ex.addI rfl rfl | exact Ex.add rfl rfl rfl) rfl ?_
      refine O.ex (Ex.assign rfl) rfl ?_
      refine O.nil ?_
      exact ⟨v + 1, ⟨rfl, rfl, rfl, rfl, trivial⟩, ⟨rfl, by omega, by omega, Holds.to (by assumption)⟩, by omega⟩
    · refine W.exit ?_
      refine hK5 _ _ _ ?_
      refine W.region ?_
      refine O.ex (Ex.move rfl) rfl ?_
      refine O.ex (by first | exact Ex.addI rfl rfl | exact Ex.add rfl rfl rfl) rfl ?_
      refine O.ex (Ex.assign rfl) rfl ?_
      refine O.nil ?_
      have H := (rh_open (m := r) (n := n) (c := c)).2 (Holds.to (by assumption))
      exact ⟨u + 1, ⟨rfl, rfl, rfl, trivial⟩, ⟨rfl, by omega, by omega, Holds.to (by assumption)⟩, by omega⟩
  · refine W.exit ?_
    refine hK1 _ _ _ ?_
    refine W.seq (fun K11 hK11 => ?_)
    have H := (rh_open (m := r) (n := n) (c := c)).1 (Holds.to (by assumption))
    refine W.drawTo _ (.take 0 (.take 2 (.take 3 (.take 4 (.take 5 (.one 1 (.take 6 (.take 7 .nil)))))))) (mixed) (fun _ _ _ _ h => h) (by assumption) (PP.refl _) (by decide +kernel) (fun w H => ?_)
    refine OQ.ex rfl (fun w H => (Ex.move rfl)) rfl ?_
    refine OQ.ex rfl (fun w H => (Ex.move rfl)) rfl ?_
    refine OQ.ex rfl (fun w H => (by first | exact Ex.nilPtr rfl | exact Ex.nilFunc rfl | exact Ex.nilYield rfl)) rfl ?_
    refine OQ.ex rfl (fun w H => (by first | exact Ex.field0 fld32_0 rfl | exact Ex.field fld32_0 rfl | exact Ex.fieldS fld32_0 rfl | exact Ex.fieldIn fld32_0 rfl)) rfl ?_
    refine OQ.ex rfl (fun w H => (by first | exact Ex.loadMh Try.isAgg3 rfl | exact Ex.loadInF Try.isAgg3 rfl (Holds.to (by assumption)) | exact Ex.loadP Try.isAgg3 rfl | exact Ex.loadM Try.isAgg3 rfl | exact Ex.loadIn1 Try.isAgg3 rfl (Holds.to (by assumption)) | exact Ex.loadVc Try.isAgg3 rfl | exact Ex.loadR Try.isAgg3 rfl | exact Ex.loadQ Try.isAgg3 rfl)) rfl ?_
    refine OQ.step rfl ?_
    refine O.callF Try.call55 rfl rfl (CT.mono (vertices_ct (Holds.to (by assumption))) ?_)
    rintro _ w ⟨rfl, H⟩
    refine O.thenNil ⟨(by first | exact Holds.to (by assumption) | assumption), ?_⟩
    refine OQ.ex rfl (fun w H => (Ex.eqlI rfl rfl)) rfl ?_
    refine OQ.ex rfl (fun w H => (Ex.assign rfl)) rfl ?_
    refine OQ.done ?_
    refine hK11 _ _ _ ?_
    refine W.ret ?_
    try dsimp only [thenQ, blockQ, retQ]
    first | refine ⟨_, ⟨_, _, rfl, rfl, rfl⟩, ?_⟩ | (refine retD_mark ?_; intro w H; refine ⟨_, ⟨_, _, rfl, rfl, rfl⟩, ?_⟩) | (refine retD_mark2 ?_; intro w H; refine ⟨_, ⟨_, _, rfl, rfl, rfl⟩, ?_⟩)
    exact ⟨congrArg Value.bool (decide_eq_true rfl), Holds.to ((rh_open (m := r) (n := n) (c := c)).2 (Holds.to (by assumption)))⟩
structure Step where
  f_U : Int
  f_W : Int
  f_Long : Int
  deriving Inhabited
def Step.enc (x : Step) : List Value := [.int .i64 x.f_U, .int .i64 x.f_W, .int .i64 x.f_Long]
def Step.ok (x : Step) : Prop := (Lit.int .i64 x.f_U).wf = true ∧ (Lit.int .i64 x.f_W).wf = true ∧ (Lit.int .i64 x.f_Long).wf = true
set_option maxRecDepth 100000 in
theorem Step.elem : ElemOk Try.prog 44 Step.enc Step.ok := fun H enc w base spare held fuel cs x h => by
  obtain ⟨ys, n, _, _, hl, hys, hf⟩ := DataW.trod_struct Try.underlying44 h
  have hc : Try.prog.cellsOf 44 = 3 := by kernel_rfl
  rw [hc] at hl
  have c3 : Try.prog.cellsOf 3 = 1 := by kernel_rfl
  match cs, hl with
  | [a0, a1, a2], _ =>
    have hy : ys.length = 3 := hys
    have h_0 : DataW.trod enc Try.prog w base spare held n 3 (([a0, a1, a2].drop 0).take (Try.prog.cellsOf 3)) = ys[0]? := hf 0 _ rfl
    rw [List.getElem?_eq_getElem (by omega), c3] at h_0
    simp only [List.drop_zero, List.take_succ_cons, List.take_zero] at h_0
    have h_1 : DataW.trod enc Try.prog w base spare held n 3 (([a0, a1, a2].drop 1).take (Try.prog.cellsOf 3)) = ys[1]? := hf 1 _ rfl
    rw [List.getElem?_eq_getElem (by omega), c3] at h_1
    simp only [List.drop_succ_cons, List.drop_zero, List.take_succ_cons, List.take_zero] at h_1
    have h_2 : DataW.trod enc Try.prog w base spare held n 3 (([a0, a1, a2].drop 2).take (Try.prog.cellsOf 3)) = ys[2]? := hf 2 _ rfl
    rw [List.getElem?_eq_getElem (by omega), c3] at h_2
    simp only [List.drop_succ_cons, List.drop_zero, List.take_succ_cons, List.take_zero] at h_2
    obtain ⟨m0, e0, _, w0⟩ := DataW.trod_int Try.underlying3 h_0
    simp only [List.cons.injEq, and_true] at e0
    subst e0
    obtain ⟨m1, e1, _, w1⟩ := DataW.trod_int Try.underlying3 h_1
    simp only [List.cons.injEq, and_true] at e1
    subst e1
    obtain ⟨m2, e2, _, w2⟩ := DataW.trod_int Try.underlying3 h_2
    simp only [List.cons.injEq, and_true] at e2
    subst e2
    exact ⟨⟨m0, m1, m2⟩, rfl, w0, w1, w2⟩
set_option maxHeartbeats 1000000 in
theorem made_ct {w w0 : World} {q : Int} {v : Value} {l : List Step} {L : List HProp} (hq : (Lit.int .u8 q).wf = true) (hx : SlIn w0 3 Step.enc v l) (hl : l.length ≤ 9223372036854775807) (H : Holds w (base w0 :: L)) :
    CT Try.prog 16 [.int .u8 q, v] w fun x w' => ∃ m r n c, Good n c ∧ x = .tuple #[.pointer (some ⟨m, 0, none⟩), .pointer (some ⟨r, 0, none⟩)] ∧ Holds w' (Mh m n c :: Rh r n c :: base w0 :: L) := by
  obtain ⟨q0, q1⟩ := bounds_u8 hq
  refine CT.enter (N := 71) Try.func16 rfl rfl rfl rfl ?_
  refine W.seq (fun K0 hK0 => ?_)
  refine W.region ?_
  refine O.ex (Ex.assign rfl) rfl ?_
  refine O.ex (Ex.assign rfl) rfl ?_
  refine O.nil ?_
  refine hK0 _ _ _ ?_
  refine W.seq (fun K1 hK1 => ?_)
  refine W.region ?_
  refine O.ex (Ex.move rfl) rfl ?_
  refine O.ex (by first | exact Ex.convToI Try.runUnderlying5 Try.runUnderlying3 rfl | exact Ex.convW Try.runUnderlying5 Try.runUnderlying3 rfl) rfl ?_
  refine O.ex (by first | exact Ex.remI rfl rfl | exact Ex.rem rfl rfl (by omega) rfl) rfl ?_
  refine O.ex (by first | exact Ex.addI rfl rfl | exact Ex.add rfl rfl rfl) rfl ?_
  refine O.ex (Ex.assign rfl) rfl ?_
  refine O.nil ?_
  refine hK1 _ _ _ ?_
  refine W.seq (fun K2 hK2 => ?_)
  refine W.region ?_
  obtain ⟨n, hn⟩ : ∃ n, n = (1 : Int) + q % 24 := ⟨_, rfl⟩
  rw [← hn]
  refine O.ex (Ex.move rfl) rfl ?_
  refine O.callF Try.call20 rfl rfl (CT.mono (new_ct (Holds.to (by assumption))) ?_)
  rintro _ w (⟨hno, -⟩ | ⟨hyes, m, rfl, H⟩)
  · exact absurd (by omega) hno
  refine O.ex (Ex.move rfl) rfl ?_
  refine O.ex (Ex.extract rfl rfl) rfl ?_
  refine O.ex (Ex.extract rfl rfl) rfl ?_
  refine O.ex (Ex.assign rfl) rfl ?_
  refine O.ex (Ex.assign rfl) rfl ?_
  refine O.nil ?_
  refine hK2 _ _ _ ?_
  refine W.seq (fun K3 hK3 => ?_)
  refine W.region ?_
  refine O.ex (Ex.move rfl) rfl ?_
  refine O.callF Try.call21 rfl rfl (CT.mono (refNew_ct (Holds.to (by assumption))) ?_)
  rintro _ w ⟨r, rfl, H⟩
  refine O.ex (Ex.assign rfl) rfl ?_
  refine O.nil ?_
  refine hK3 _ _ _ ?_
  refine W.seq (fun K4 hK4 => ?_)
  refine W.seq (fun K5 hK5 => ?_)
  refine W.region ?_
  refine O.ex (Ex.move rfl) rfl ?_
  refine O.ex (Ex.nilEq Try.runUnderlying25 rfl rfl) rfl ?_
  refine O.nil ?_
  refine hK5 _ _ _ ?_
  refine W.known_f rfl (by first | rfl | decide) ?_
  refine W.skip ?_
  refine hK4 _ _ _ ?_
  refine W.seq (fun K6 hK6 => ?_)
  refine W.seq (fun K7 hK7 => ?_)
  refine W.region ?_
  refine O.ex (Ex.assign rfl) rfl ?_
  refine O.nil ?_
  refine hK7 _ _ _ ?_
  refine W.block ?_
  have hg0 := good_none (n := n) (by omega) (by omega)
  refine W.loop (σ := Nat) (fun i => [(1, v), (7, .pointer (some ⟨m, 0, none⟩)), (9, .pointer (some ⟨r, 0, none⟩)), (10, .int .i64 (i : Int))]) (fun i ds w => ds = [] ∧ i ≤ l.length ∧ i ≤ 400 ∧ ∃ c, Good n c ∧ Holds w (Mh m n c :: Rh r n c :: base w0 :: L)) (fun i => l.length - i) 0 ⟨rfl, rfl, rfl, rfl, trivial⟩ ⟨rfl, by omega, by omega, _, hg0, Holds.to (by assumption)⟩ ?_
  clear H hg0
  rintro i _ w ⟨rfl, hi, hi4, c, hg, H⟩
  refine W.seq (fun K8 hK8 => ?_)
  refine W.seq (fun K9 hK9 => ?_)
  refine W.region ?_
  refine O.ex (Ex.move rfl) rfl ?_
  refine O.ex (Ex.move rfl) rfl ?_
  refine O.ex (by first | exact Ex.lenN Try.runUnderlying22 rfl | exact Ex.lenIn Try.runUnderlying22 rfl | exact Ex.lenL Try.runUnderlying22 rfl | exact Ex.len rfl Try.runUnderlying22 rfl) rfl ?_
  refine O.ex (Ex.lss rfl rfl) rfl ?_
  refine O.ex (Ex.move rfl) rfl ?_
  first | refine O.split_p (t := 29) rfl (fun h1 => ?_) (fun h1 => ?_) | refine O.split (t := 29) rfl (fun h1 => ?_) (fun h1 => ?_)
  · refine O.guard_t rfl rfl ?_
    refine O.ex (Ex.move rfl) rfl ?_
    refine O.guard_t rfl rfl ?_
    refine O.ex (Ex.lss rfl rfl) rfl ?_
    refine O.ex (Ex.pick_t rfl rfl) rfl ?_
    refine O.nil ?_
    refine hK9 _ _ _ ?_
    first | refine W.cond_p rfl (fun hlt => ?_) (fun hge => ?_) | refine W.cond_b rfl (fun hlt => ?_) (fun hge => ?_)
    · refine W.skip ?_
      refine hK8 _ _ _ ?_
      refine W.seq (fun K10 hK10 => ?_)
      refine W.block ?_
      refine W.seq (fun K11 hK11 => ?_)
      have hi0 : (0 : Int) ≤ (i : Int) := by omega
      have hi1 : (i : Int) < l.length := h1
      refine W.drawTo _ (.take 0 (.take 1 (.take 2 (.take 3 (.take 4 (.take 5 (.take 6 (.take 7 (.take 8 (.take 9 (.take 10 (.take 11 (.take 12 (.take 13 (.take 14 (.take 15 (.one 16 .nil))))))))))))))))) (mixed) (fun _ _ _ _ h => h) (by assumption) (PP.refl _) (by decide +kernel) (fun w H => ?_)
      refine OQ.ex rfl (fun w H => (Ex.move rfl)) rfl ?_
      refine OQ.ex rfl (fun w H => (Ex.move rfl)) rfl ?_
      refine OQ.ex rfl (fun w H => (Ex.move rfl)) rfl ?_
      refine OQ.ex rfl (fun w H => (by first | exact Ex.idxIn Try.runUnderlying22 Try.sizeOf44 rfl rfl | exact Ex.idxN Try.runUnderlying22 Try.sizeOf44 rfl rfl | exact Ex.idxSN Try.runUnderlying22 Try.sizeOf44 rfl rfl | exact Ex.idx Try.runUnderlying22 Try.sizeOf44 rfl rfl (by omega) (by omega))) rfl ?_
      refine OQ.ex rfl (fun w H => (by first | exact Ex.field0 fld44_0 rfl | exact Ex.field fld44_0 rfl | exact Ex.fieldS fld44_0 rfl | exact Ex.fieldIn fld44_0 rfl)) rfl ?_
      refine OQ.ex rfl (fun w H => (by first | exact Ex.loadMh Try.isAgg3 rfl | exact Ex.loadInF Try.isAgg3 rfl (Holds.to (by assumption)) | exact Ex.loadP Try.isAgg3 rfl | exact Ex.loadM Try.isAgg3 rfl | exact Ex.loadIn1 Try.isAgg3 rfl (Holds.to (by assumption)) | exact Ex.loadVc Try.isAgg3 rfl | exact Ex.loadR Try.isAgg3 rfl | exact Ex.loadQ Try.isAgg3 rfl)) rfl ?_
      refine OQ.ex rfl (fun w H => (Ex.move rfl)) rfl ?_
      refine OQ.ex rfl (fun w H => (Ex.move rfl)) rfl ?_
      refine OQ.ex rfl (fun w H => (by first | exact Ex.idxIn Try.runUnderlying22 Try.sizeOf44 rfl rfl | exact Ex.idxN Try.runUnderlying22 Try.sizeOf44 rfl rfl | exact Ex.idxSN Try.runUnderlying22 Try.sizeOf44 rfl rfl | exact Ex.idx Try.runUnderlying22 Try.sizeOf44 rfl rfl (by omega) (by omega))) rfl ?_
      refine OQ.ex rfl (fun w H => (by first | exact Ex.field0 fld44_1 rfl | exact Ex.field fld44_1 rfl | exact Ex.fieldS fld44_1 rfl | exact Ex.fieldIn fld44_1 rfl)) rfl ?_
      refine OQ.ex rfl (fun w H => (by first | exact Ex.loadMh Try.isAgg3 rfl | exact Ex.loadInF Try.isAgg3 rfl (Holds.to (by assumption)) | exact Ex.loadP Try.isAgg3 rfl | exact Ex.loadM Try.isAgg3 rfl | exact Ex.loadIn1 Try.isAgg3 rfl (Holds.to (by assumption)) | exact Ex.loadVc Try.isAgg3 rfl | exact Ex.loadR Try.isAgg3 rfl | exact Ex.loadQ Try.isAgg3 rfl)) rfl ?_
      refine OQ.ex rfl (fun w H => (Ex.move rfl)) rfl ?_
      refine OQ.ex rfl (fun w H => (Ex.move rfl)) rfl ?_
      refine OQ.ex rfl (fun w H => (by first | exact Ex.idxIn Try.runUnderlying22 Try.sizeOf44 rfl rfl | exact Ex.idxN Try.runUnderlying22 Try.sizeOf44 rfl rfl | exact Ex.idxSN Try.runUnderlying22 Try.sizeOf44 rfl rfl | exact Ex.idx Try.runUnderlying22 Try.sizeOf44 rfl rfl (by omega) (by omega))) rfl ?_
      refine OQ.ex rfl (fun w H => (by first | exact Ex.field0 fld44_2 rfl | exact Ex.field fld44_2 rfl | exact Ex.fieldS fld44_2 rfl | exact Ex.fieldIn fld44_2 rfl)) rfl ?_
      refine OQ.ex rfl (fun w H => (by first | exact Ex.loadMh Try.isAgg3 rfl | exact Ex.loadInF Try.isAgg3 rfl (Holds.to (by assumption)) | exact Ex.loadP Try.isAgg3 rfl | exact Ex.loadM Try.isAgg3 rfl | exact Ex.loadIn1 Try.isAgg3 rfl (Holds.to (by assumption)) | exact Ex.loadVc Try.isAgg3 rfl | exact Ex.loadR Try.isAgg3 rfl | exact Ex.loadQ Try.isAgg3 rfl)) rfl ?_
      refine OQ.last rfl (by decide +kernel) ?_
      refine O.callF Try.call22 rfl rfl (CT.mono (put_ct hg (Holds.to (by assumption))) ?_)
      rintro _ w ⟨-, H⟩
      refine O.nil ?_
      refine hK11 _ _ _ ?_
      have hi0 : (0 : Int) ≤ (i : Int) := by omega
      have hi1 : (i : Int) < l.length := h1
      refine W.drawTo _ (.take 0 (.take 1 (.take 2 (.take 3 (.take 4 (.take 5 (.take 6 (.take 7 (.take 8 (.take 9 (.take 10 (.take 11 (.take 12 (.take 13 (.take 14 (.take 15 (.one 16 .nil))))))))))))))))) (mixed) (fun _ _ _ _ h => h) (by assumption) (PP.refl _) (by decide +kernel) (fun w H => ?_)
      refine OQ.ex rfl (fun w H => (Ex.move rfl)) rfl ?_
      refine OQ.ex rfl (fun w H => (Ex.move rfl)) rfl ?_
      refine OQ.ex rfl (fun w H => (Ex.move rfl)) rfl ?_
      refine OQ.ex rfl (fun w H => (by first | exact Ex.idxIn Try.runUnderlying22 Try.sizeOf44 rfl rfl | exact Ex.idxN Try.runUnderlying22 Try.sizeOf44 rfl rfl | exact Ex.idxSN Try.runUnderlying22 Try.sizeOf44 rfl rfl | exact Ex.idx Try.runUnderlying22 Try.sizeOf44 rfl rfl (by omega) (by omega))) rfl ?_
      refine OQ.ex rfl (fun w H => (by first | exact Ex.field0 fld44_0 rfl | exact Ex.field fld44_0 rfl | exact Ex.fieldS fld44_0 rfl | exact Ex.fieldIn fld44_0 rfl)) rfl ?_
      refine OQ.ex rfl (fun w H => (by first | exact Ex.loadMh Try.isAgg3 rfl | exact Ex.loadInF Try.isAgg3 rfl (Holds.to (by assumption)) | exact Ex.loadP Try.isAgg3 rfl | exact Ex.loadM Try.isAgg3 rfl | exact Ex.loadIn1 Try.isAgg3 rfl (Holds.to (by assumption)) | exact Ex.loadVc Try.isAgg3 rfl | exact Ex.loadR Try.isAgg3 rfl | exact Ex.loadQ Try.isAgg3 rfl)) rfl ?_
      refine OQ.ex rfl (fun w H => (Ex.move rfl)) rfl ?_
      refine OQ.ex rfl (fun w H => (Ex.move rfl)) rfl ?_
      refine OQ.ex rfl (fun w H => (by first | exact Ex.idxIn Try.runUnderlying22 Try.sizeOf44 rfl rfl | exact Ex.idxN Try.runUnderlying22 Try.sizeOf44 rfl rfl | exact Ex.idxSN Try.runUnderlying22 Try.sizeOf44 rfl rfl | exact Ex.idx Try.runUnderlying22 Try.sizeOf44 rfl rfl (by omega) (by omega))) rfl ?_
      refine OQ.ex rfl (fun w H => (by first | exact Ex.field0 fld44_1 rfl | exact Ex.field fld44_1 rfl | exact Ex.fieldS fld44_1 rfl | exact Ex.fieldIn fld44_1 rfl)) rfl ?_
      refine OQ.ex rfl (fun w H => (by first | exact Ex.loadMh Try.isAgg3 rfl | exact Ex.loadInF Try.isAgg3 rfl (Holds.to (by assumption)) | exact Ex.loadP Try.isAgg3 rfl | exact Ex.loadM Try.isAgg3 rfl | exact Ex.loadIn1 Try.isAgg3 rfl (Holds.to (by assumption)) | exact Ex.loadVc Try.isAgg3 rfl | exact Ex.loadR Try.isAgg3 rfl | exact Ex.loadQ Try.isAgg3 rfl)) rfl ?_
      refine OQ.ex rfl (fun w H => (Ex.move rfl)) rfl ?_
      refine OQ.ex rfl (fun w H => (Ex.move rfl)) rfl ?_
      refine OQ.ex rfl (fun w H => (by first | exact Ex.idxIn Try.runUnderlying22 Try.sizeOf44 rfl rfl | exact Ex.idxN Try.runUnderlying22 Try.sizeOf44 rfl rfl | exact Ex.idxSN Try.runUnderlying22 Try.sizeOf44 rfl rfl | exact Ex.idx Try.runUnderlying22 Try.sizeOf44 rfl rfl (by omega) (by omega))) rfl ?_
      refine OQ.ex rfl (fun w H => (by first | exact Ex.field0 fld44_2 rfl | exact Ex.field fld44_2 rfl | exact Ex.fieldS fld44_2 rfl | exact Ex.fieldIn fld44_2 rfl)) rfl ?_
      refine OQ.ex rfl (fun w H => (by first | exact Ex.loadMh Try.isAgg3 rfl | exact Ex.loadInF Try.isAgg3 rfl (Holds.to (by assumption)) | exact Ex.loadP Try.isAgg3 rfl | exact Ex.loadM Try.isAgg3 rfl | exact Ex.loadIn1 Try.isAgg3 rfl (Holds.to (by assumption)) | exact Ex.loadVc Try.isAgg3 rfl | exact Ex.loadR Try.isAgg3 rfl | exact Ex.loadQ Try.isAgg3 rfl)) rfl ?_
      refine OQ.last rfl (by decide +kernel) ?_
      refine O.callF Try.call23 rfl rfl (CT.mono (refPut_ct hg (Holds.to (by assumption))) ?_)
      rintro _ w ⟨-, H⟩
      refine O.nil ?_
      refine hK10 _ _ _ ?_
      refine W.region ?_
      refine O.ex (Ex.move rfl) rfl ?_
      refine O.ex (by first | exact Ex.addI rfl rfl | exact Ex.add rfl rfl rfl) rfl ?_
      refine O.ex (Ex.assign rfl) rfl ?_
      refine O.nil ?_
      exact ⟨i + 1, ⟨rfl, rfl, rfl, rfl, trivial⟩, ⟨rfl, by omega, by omega, _, good_put hg _ _ _, Holds.to (by assumption)⟩, by omega⟩
    · refine W.exit ?_
      refine hK6 _ _ _ ?_
      refine W.seq (fun K12 hK12 => ?_)
      refine W.region ?_
      refine O.ex (Ex.move rfl) rfl ?_
      refine O.ex (Ex.move rfl) rfl ?_
      refine O.ex (Ex.assign rfl) rfl ?_
      refine O.ex (Ex.assign rfl) rfl ?_
      refine O.nil ?_
      refine hK12 _ _ _ ?_
      refine W.ret ?_
      try dsimp only [thenQ, blockQ, retQ]
      first | refine ⟨_, ⟨_, _, rfl, rfl, _, _, rfl, rfl, rfl⟩, ?_⟩ | (refine retD_mark ?_; intro w H; refine ⟨_, ⟨_, _, rfl, rfl, _, _, rfl, rfl, rfl⟩, ?_⟩) | (refine retD_mark2 ?_; intro w H; refine ⟨_, ⟨_, _, rfl, rfl, _, _, rfl, rfl, rfl⟩, ?_⟩)
      exact ⟨m, r, n, c, hg, rfl, Holds.to (by assumption)⟩
  · refine O.guard_f rfl rfl rfl rfl ?_
    refine O.guard_f rfl rfl rfl rfl ?_
    refine O.ex (Ex.pick_f rfl rfl) rfl ?_
    refine O.nil ?_
    refine hK9 _ _ _ ?_
    refine W.cond_f rfl ?_
    refine W.exit ?_
    refine hK6 _ _ _ ?_
    refine W.seq (fun K13 hK13 => ?_)
    refine W.region ?_
    refine O.ex (Ex.move rfl) rfl ?_
    refine O.ex (Ex.move rfl) rfl ?_
    refine O.ex (Ex.assign rfl) rfl ?_
    refine O.ex (Ex.assign rfl) rfl ?_
    refine O.nil ?_
    refine hK13 _ _ _ ?_
    refine W.ret ?_
    try dsimp only [thenQ, blockQ, retQ]
    first | refine ⟨_, ⟨_, _, rfl, rfl, _, _, rfl, rfl, rfl⟩, ?_⟩ | (refine retD_mark ?_; intro w H; refine ⟨_, ⟨_, _, rfl, rfl, _, _, rfl, rfl, rfl⟩, ?_⟩) | (refine retD_mark2 ?_; intro w H; refine ⟨_, ⟨_, _, rfl, rfl, _, _, rfl, rfl, rfl⟩, ?_⟩)
    exact ⟨m, r, n, c, hg, rfl, Holds.to (by assumption)⟩
set_option maxHeartbeats 1000000 in
theorem awake12_ct {w : World} {L : List HProp} (H : Holds w L) : CT Try.prog 15 [] w fun u w' => u = .bool true ∧ Holds w' L := by
  have g0 := good_none (n := 3) (by omega) (by omega)
  have g1 := good_put g0 0 1 2
  have g2 := good_put g1 1 2 3
  have g3 := good_put g2 0 2 9
  have g4 := good_put g3 1 1 9
  obtain ⟨c, hc⟩ : ∃ c, c = putD 3 (putD 3 (putD 3 (putD 3 noneM 0 1 2) 1 2 3) 0 2 9) 1 1 9 := ⟨_, rfl⟩
  have g5 := good_contr g4 1
  have k1 : contrK 3 c 1 = 1 := by rw [hc]; decide +kernel
  have k2 : detL 3 c 1 = [⟨0, 2, 5, 1⟩] := by rw [hc]; decide +kernel
  have k3 : contrC 3 c 1 0 2 = 5 := by rw [hc]; decide +kernel
  have k4 : contrC 3 c 1 0 1 = 4611686018427387906 := by rw [hc]; decide +kernel
  have k5 : contrC 3 c 1 0 3 = 4611686018427387906 := by rw [hc]; decide +kernel
  rw [← hc] at g4 g5
  refine CT.enter (N := 93) Try.func15 rfl rfl rfl rfl ?_
  refine W.seq (fun K0 hK0 => ?_)
  refine W.region ?_
  refine O.ex (Ex.assign rfl) rfl ?_
  refine O.nil ?_
  refine hK0 _ _ _ ?_
  refine W.seq (fun K1 hK1 => ?_)
  refine W.region ?_
  refine O.callF Try.call20 rfl rfl (CT.mono (new_ct (n := 3) (by assumption)) ?_)
  rintro _ w (⟨hno, -⟩ | ⟨-, m, rfl, H⟩)
  · exact absurd (by omega) hno
  refine O.ex (Ex.move rfl) rfl ?_
  refine O.ex (Ex.extract rfl rfl) rfl ?_
  refine O.ex (Ex.extract rfl rfl) rfl ?_
  refine O.ex (Ex.assign rfl) rfl ?_
  refine O.ex (Ex.assign rfl) rfl ?_
  refine O.nil ?_
  refine hK1 _ _ _ ?_
  refine W.seq (fun K2 hK2 => ?_)
  refine W.region ?_
  refine O.callF Try.call20 rfl rfl (CT.mono (new_ct (n := 25) (by assumption)) ?_)
  rintro _ w (⟨-, rfl, H⟩ | ⟨hno, -⟩)
  rotate_left
  · exact absurd hno (by omega)
  refine O.ex (Ex.move rfl) rfl ?_
  refine O.ex (Ex.extract rfl rfl) rfl ?_
  refine O.ex (Ex.extract rfl rfl) rfl ?_
  refine O.ex (Ex.assign rfl) rfl ?_
  refine O.ex (Ex.assign rfl) rfl ?_
  refine O.nil ?_
  refine hK2 _ _ _ ?_
  refine W.seq (fun K3 hK3 => ?_)
  refine W.seq (fun K4 hK4 => ?_)
  refine W.region ?_
  refine O.ex (Ex.move rfl) rfl ?_
  refine O.ex (Ex.nilEq Try.runUnderlying25 rfl rfl) rfl ?_
  refine O.ex (Ex.move rfl) rfl ?_
  refine O.known (t := 20) (c := false) rfl (by first | rfl | decide | exact decide_eq_true k1 | exact decide_eq_true k3 | exact decide_eq_true k4 | exact decide_eq_true k5) ?_
  refine O.guard_t rfl rfl ?_
  refine O.ex (Ex.move rfl) rfl ?_
  refine O.guard_t rfl rfl ?_
  refine O.ex (Ex.neqI rfl rfl) rfl ?_
  refine O.ex (Ex.pick_f rfl rfl) rfl ?_
  refine O.ex (Ex.move rfl) rfl ?_
  refine O.known (t := 24) (c := false) rfl (by first | rfl | decide | exact decide_eq_true k1 | exact decide_eq_true k3 | exact decide_eq_true k4 | exact decide_eq_true k5) ?_
  refine O.guard_t rfl rfl ?_
  refine O.ex (Ex.move rfl) rfl ?_
  refine O.guard_t rfl rfl ?_
  refine O.ex (Ex.neqI rfl rfl) rfl ?_
  refine O.ex (Ex.pick_f rfl rfl) rfl ?_
  refine O.nil ?_
  refine hK4 _ _ _ ?_
  refine W.known_f rfl (by first | rfl | decide | exact decide_eq_true k1 | exact decide_eq_true k3 | exact decide_eq_true k4 | exact decide_eq_true k5) ?_
  refine W.skip ?_
  refine hK3 _ _ _ ?_
  refine W.seq (fun K5 hK5 => ?_)
  refine W.region ?_
  refine O.ex (Ex.move rfl) rfl ?_
  refine O.callF Try.call22 rfl rfl (CT.mono (put_ct g0 (Holds.to (by assumption))) ?_)
  rintro _ w ⟨-, H⟩
  refine O.nil ?_
  refine hK5 _ _ _ ?_
  refine W.seq (fun K6 hK6 => ?_)
  refine W.region ?_
  refine O.ex (Ex.move rfl) rfl ?_
  refine O.callF Try.call22 rfl rfl (CT.mono (put_ct g1 (Holds.to (by assumption))) ?_)
  rintro _ w ⟨-, H⟩
  refine O.nil ?_
  refine hK6 _ _ _ ?_
  refine W.seq (fun K7 hK7 => ?_)
  refine W.region ?_
  refine O.ex (Ex.move rfl) rfl ?_
  refine O.callF Try.call22 rfl rfl (CT.mono (put_ct g2 (Holds.to (by assumption))) ?_)
  rintro _ w ⟨rfl, H⟩
  refine O.ex (Ex.assign rfl) rfl ?_
  refine O.nil ?_
  refine hK7 _ _ _ ?_
  refine W.seq (fun K8 hK8 => ?_)
  refine W.region ?_
  refine O.ex (Ex.move rfl) rfl ?_
  refine O.callF Try.call22 rfl rfl (CT.mono (put_ct g3 (Holds.to (by assumption))) ?_)
  rintro _ w ⟨rfl, H⟩
  rw [← hc] at H
  refine O.ex (Ex.assign rfl) rfl ?_
  refine O.nil ?_
  refine hK8 _ _ _ ?_
  refine W.seq (fun K9 hK9 => ?_)
  refine W.region ?_
  refine O.ex (Ex.move rfl) rfl ?_
  refine O.callF Try.call27 rfl rfl (CT.mono (detours_ct g4 (Holds.to (by assumption))) ?_)
  rintro _ w ⟨hvl, H⟩
  rename_i vl
  rw [k2] at H
  refine O.ex (Ex.assign rfl) rfl ?_
  refine O.nil ?_
  refine hK9 _ _ _ ?_
  refine W.seq (fun K10 hK10 => ?_)
  refine W.region ?_
  refine O.ex (Ex.move rfl) rfl ?_
  refine O.callF Try.call18 rfl rfl (CT.mono (contract_ct g4 (Holds.to (by assumption))) ?_)
  rintro _ w (⟨-, rfl, H⟩ | ⟨hno, -⟩)
  rotate_left
  · exact absurd (by omega) hno
  have hsl : isSl vl 1 := arrN_sl (sz := 5) (e := LinkM.enc) (v := vl) (xs := [⟨0, 2, 5, 1⟩]) (Holds.to (by assumption)) (by decide)
  refine O.ex (Ex.move rfl) rfl ?_
  refine O.ex (Ex.extract rfl rfl) rfl ?_
  refine O.ex (Ex.extract rfl rfl) rfl ?_
  refine O.ex (Ex.assign rfl) rfl ?_
  refine O.ex (Ex.assign rfl) rfl ?_
  refine O.nil ?_
  refine hK10 _ _ _ ?_
  refine W.seq (fun K11 hK11 => ?_)
  refine W.region ?_
  refine O.ex (Ex.move rfl) rfl ?_
  refine O.ex (Ex.eqlI rfl rfl) rfl ?_
  refine O.ex (Ex.move rfl) rfl ?_
  refine O.known (t := 45) (c := true) rfl (by first | rfl | decide | exact decide_eq_true k1 | exact decide_eq_true k3 | exact decide_eq_true k4 | exact decide_eq_true k5) ?_
  refine O.guard_t rfl rfl ?_
  refine O.ex (Ex.move rfl) rfl ?_
  refine O.guard_t rfl rfl ?_
  refine O.ex (Ex.eqlI rfl rfl) rfl ?_
  refine O.ex (Ex.pick_t rfl rfl) rfl ?_
  refine O.ex (Ex.move rfl) rfl ?_
  refine O.known (t := 49) (c := true) rfl (by first | rfl | decide | exact decide_eq_true k1 | exact decide_eq_true k3 | exact decide_eq_true k4 | exact decide_eq_true k5) ?_
  refine O.guard_t rfl rfl ?_
  refine O.ex (Ex.move rfl) rfl ?_
  refine O.guard_t rfl rfl ?_
  refine O.ex (by first | exact Ex.lenN Try.runUnderlying48 rfl | exact Ex.lenIn Try.runUnderlying48 rfl | exact Ex.lenL Try.runUnderlying48 rfl | exact Ex.len rfl Try.runUnderlying48 rfl) rfl ?_
  refine O.guard_t rfl rfl ?_
  refine O.ex (Ex.eqlI rfl rfl) rfl ?_
  refine O.ex (Ex.pick_t rfl rfl) rfl ?_
  refine O.ex (Ex.move rfl) rfl ?_
  refine O.known (t := 54) (c := true) rfl (by first | rfl | decide | exact decide_eq_true k1 | exact decide_eq_true k3 | exact decide_eq_true k4 | exact decide_eq_true k5) ?_
  refine O.guard_t rfl rfl ?_
  refine O.ex (Ex.move rfl) rfl ?_
  refine O.guard_t rfl rfl ?_
  refine O.ex (by first | exact Ex.idxIn Try.runUnderlying48 Try.sizeOf97 rfl rfl | exact Ex.idxN Try.runUnderlying48 Try.sizeOf97 rfl rfl | exact Ex.idxSN Try.runUnderlying48 Try.sizeOf97 rfl rfl | exact Ex.idx Try.runUnderlying48 Try.sizeOf97 rfl rfl (by omega) (by omega)) rfl ?_
  refine O.guard_t rfl rfl ?_
  refine O.ex (by first | exact Ex.field0 fld97_2 rfl | exact Ex.field fld97_2 rfl | exact Ex.fieldS fld97_2 rfl | exact Ex.fieldIn fld97_2 rfl) rfl ?_
  refine O.guard_t rfl rfl ?_
  refine O.ex (by first | exact Ex.field0 fld95_0 rfl | exact Ex.field fld95_0 rfl | exact Ex.fieldS fld95_0 rfl | exact Ex.fieldIn fld95_0 rfl) rfl ?_
  refine O.guard_t rfl rfl ?_
  refine O.ex (Ex.loadN (i := 0) (j := 2) Try.isAgg3 rfl (h := by decide)) rfl ?_
  refine O.guard_t rfl rfl ?_
  refine O.ex (Ex.eqlI rfl rfl) rfl ?_
  refine O.ex (Ex.pick_t rfl rfl) rfl ?_
  refine O.ex (Ex.move rfl) rfl ?_
  refine O.known (t := 62) (c := true) rfl (by first | rfl | decide | exact decide_eq_true k1 | exact decide_eq_true k3 | exact decide_eq_true k4 | exact decide_eq_true k5) ?_
  refine O.guard_t rfl rfl ?_
  refine O.ex (Ex.move rfl) rfl ?_
  refine O.guard_t rfl rfl ?_
  refine O.ex (by first | exact Ex.idxIn Try.runUnderlying48 Try.sizeOf97 rfl rfl | exact Ex.idxN Try.runUnderlying48 Try.sizeOf97 rfl rfl | exact Ex.idxSN Try.runUnderlying48 Try.sizeOf97 rfl rfl | exact Ex.idx Try.runUnderlying48 Try.sizeOf97 rfl rfl (by omega) (by omega)) rfl ?_
  refine O.guard_t rfl rfl ?_
  refine O.ex (by first | exact Ex.field0 fld97_2 rfl | exact Ex.field fld97_2 rfl | exact Ex.fieldS fld97_2 rfl | exact Ex.fieldIn fld97_2 rfl) rfl ?_
  refine O.guard_t rfl rfl ?_
  refine O.ex (by first | exact Ex.field0 fld95_2 rfl | exact Ex.field fld95_2 rfl | exact Ex.fieldS fld95_2 rfl | exact Ex.fieldIn fld95_2 rfl) rfl ?_
  refine O.guard_t rfl rfl ?_
  refine O.ex (Ex.loadN (i := 0) (j := 4) Try.isAgg3 rfl (h := by decide)) rfl ?_
  refine O.guard_t rfl rfl ?_
  refine O.ex (Ex.eqlI rfl rfl) rfl ?_
  refine O.ex (Ex.pick_t rfl rfl) rfl ?_
  refine O.ex (Ex.move rfl) rfl ?_
  refine O.known (t := 70) (c := true) rfl (by first | rfl | decide | exact decide_eq_true k1 | exact decide_eq_true k3 | exact decide_eq_true k4 | exact decide_eq_true k5) ?_
  refine O.guard_t rfl rfl ?_
  refine O.ex (Ex.move rfl) rfl ?_
  refine O.guard_t rfl rfl ?_
  refine O.ex (Ex.eqlI rfl rfl) rfl ?_
  refine O.ex (Ex.pick_t rfl rfl) rfl ?_
  refine O.ex (Ex.move rfl) rfl ?_
  refine O.known (t := 74) (c := true) rfl (by first | rfl | decide | exact decide_eq_true k1 | exact decide_eq_true k3 | exact decide_eq_true k4 | exact decide_eq_true k5) ?_
  refine O.guard_t rfl rfl ?_
  refine O.ex (Ex.move rfl) rfl ?_
  refine O.guard_t rfl rfl ?_
  refine O.ex (Ex.eqlI rfl rfl) rfl ?_
  refine O.ex (Ex.pick_t rfl rfl) rfl ?_
  refine O.ex (Ex.move rfl) rfl ?_
  refine O.known (t := 78) (c := true) rfl (by first | rfl | decide | exact decide_eq_true k1 | exact decide_eq_true k3 | exact decide_eq_true k4 | exact decide_eq_true k5) ?_
  refine O.guard_t rfl rfl ?_
  refine O.ex (Ex.move rfl) rfl ?_
  refine O.guard_t rfl rfl ?_
  refine O.callF Try.call19 rfl rfl (CT.mono (at_ct g5 (Holds.to (by assumption))) ?_)
  rintro _ w ⟨rfl, H⟩
  refine O.guard_t rfl rfl ?_
  refine O.ex (Ex.eqlI rfl rfl) rfl ?_
  refine O.ex (Ex.pick_t rfl rfl) rfl ?_
  refine O.ex (Ex.move rfl) rfl ?_
  refine O.known (t := 83) (c := true) rfl (by first | rfl | decide | exact decide_eq_true k1 | exact decide_eq_true k3 | exact decide_eq_true k4 | exact decide_eq_true k5) ?_
  refine O.guard_t rfl rfl ?_
  refine O.ex (Ex.move rfl) rfl ?_
  refine O.guard_t rfl rfl ?_
  refine O.callF Try.call19 rfl rfl (CT.mono (at_ct g5 (Holds.to (by assumption))) ?_)
  rintro _ w ⟨rfl, H⟩
  refine O.guard_t rfl rfl ?_
  refine O.ex (Ex.eqlI rfl rfl) rfl ?_
  refine O.ex (Ex.pick_t rfl rfl) rfl ?_
  refine O.ex (Ex.move rfl) rfl ?_
  refine O.known (t := 88) (c := true) rfl (by first | rfl | decide | exact decide_eq_true k1 | exact decide_eq_true k3 | exact decide_eq_true k4 | exact decide_eq_true k5) ?_
  refine O.guard_t rfl rfl ?_
  refine O.ex (Ex.move rfl) rfl ?_
  refine O.guard_t rfl rfl ?_
  refine O.callF Try.call19 rfl rfl (CT.mono (at_ct g5 (Holds.to (by assumption))) ?_)
  rintro _ w ⟨rfl, H⟩
  refine O.guard_t rfl rfl ?_
  refine O.ex (Ex.eqlI rfl rfl) rfl ?_
  refine O.ex (Ex.pick_t rfl rfl) rfl ?_
  refine O.ex (Ex.assign rfl) rfl ?_
  refine O.nil ?_
  refine hK11 _ _ _ ?_
  refine W.ret ?_
  try dsimp only [thenQ, blockQ, retQ]
  first | refine ⟨_, ⟨_, _, rfl, rfl, rfl⟩, ?_⟩ | (refine retD_mark ?_; intro w H; refine ⟨_, ⟨_, _, rfl, rfl, rfl⟩, ?_⟩) | (refine retD_mark2 ?_; intro w H; refine ⟨_, ⟨_, _, rfl, rfl, rfl⟩, ?_⟩)
  exact ⟨by simp only [oneOf]; exact congrArg Value.bool (decide_eq_true k5), Holds.to (by assumption)⟩
end Go.Proofs.Ytblapiiinbppiaa
