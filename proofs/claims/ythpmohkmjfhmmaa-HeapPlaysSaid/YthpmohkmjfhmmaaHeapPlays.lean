import Derived.Test.YthpmohkmjfhmmaaRef04
import Derived.Test.YthpmohkmjfhmmaaRrRow
namespace Go.Proofs.Ythpmohkmjfhmmaa
open Go.Rr Go Hp
set_option linter.unusedVariables false
structure ActH where
  f_Kind : Int
  f_Thing : Int
  f_P : Int
  deriving Inhabited
def ActH.enc (x : ActH) : List Value := [.int .i64 x.f_Kind, .int .i64 x.f_Thing, .int .i64 x.f_P]
def ActH.ok (x : ActH) : Prop := (Lit.int .i64 x.f_Kind).wf = true ∧ (Lit.int .i64 x.f_Thing).wf = true ∧ (Lit.int .i64 x.f_P).wf = true
set_option maxRecDepth 100000 in
theorem ActH.elem : ElemOk Try.prog 65 ActH.enc ActH.ok := fun H enc w base spare held fuel cs x h => by
  obtain ⟨ys, n, _, _, hl, hys, hf⟩ := DataW.trod_struct Try.underlying65 h
  have hc : Try.prog.cellsOf 65 = 3 := by kernel_rfl
  rw [hc] at hl
  have c3 : Try.prog.cellsOf 3 = 1 := by kernel_rfl
  match cs, hl with
  | [a0, a1, a2], _ =>
    have hys' : ys.length = 3 := hys
    have h0 : DataW.trod enc Try.prog w base spare held n 3 (([a0, a1, a2].drop 0).take (Try.prog.cellsOf 3)) = ys[0]? := hf 0 _ rfl
    rw [List.getElem?_eq_getElem (by omega), c3] at h0
    simp only [List.drop_zero, List.take_succ_cons, List.take_zero] at h0
    have h1 : DataW.trod enc Try.prog w base spare held n 3 (([a0, a1, a2].drop 1).take (Try.prog.cellsOf 3)) = ys[1]? := hf 1 _ rfl
    rw [List.getElem?_eq_getElem (by omega), c3] at h1
    simp only [List.drop_succ_cons, List.drop_zero, List.take_succ_cons, List.take_zero] at h1
    have h2 : DataW.trod enc Try.prog w base spare held n 3 (([a0, a1, a2].drop 2).take (Try.prog.cellsOf 3)) = ys[2]? := hf 2 _ rfl
    rw [List.getElem?_eq_getElem (by omega), c3] at h2
    simp only [List.drop_succ_cons, List.drop_zero, List.take_succ_cons, List.take_zero] at h2
    obtain ⟨m0, e0, _, w0⟩ := DataW.trod_int Try.underlying3 h0
    simp only [List.cons.injEq, and_true] at e0
    subst e0
    obtain ⟨m1, e1, _, w1⟩ := DataW.trod_int Try.underlying3 h1
    simp only [List.cons.injEq, and_true] at e1
    subst e1
    obtain ⟨m2, e2, _, w2⟩ := DataW.trod_int Try.underlying3 h2
    simp only [List.cons.injEq, and_true] at e2
    subst e2
    exact ⟨⟨m0, m1, m2⟩, rfl, w0, w1, w2⟩
set_option maxHeartbeats 2000000 in
theorem heapPlays_ct {w0 : World} {n : Int} {sv : Value} {sc : List ActH} (hs : SlIn w0 3 ActH.enc sv sc) (hl : sc.length ≤ 9223372036854775807) :
    CT Try.prog 11 [.int .i64 n, sv] w0 fun u w' => u = .bool true ∧ RowKit.Below w0.heap.size w0 w' := by
  have H := Holds.base_refl w0
  refine CT.enter (N := 164) Try.func11 rfl rfl rfl rfl ?_
  refine W.seq (fun K0 hK0 => ?_)
  refine W.region ?_
  refine O.ex (Ex.assign rfl) rfl ?_
  refine O.nil ?_
  refine hK0 _ _ _ ?_
  refine W.seq (fun K1 hK1 => ?_)
  refine W.seq (fun K2 hK2 => ?_)
  refine W.region ?_
  refine O.callF Try.call26 rfl rfl (CT.mono (awake04_ct (by assumption)) ?_)
  rintro _ w ⟨rfl, H⟩
  refine O.ex (by first | exact Ex.notD rfl | exact Ex.not rfl) rfl ?_
  refine O.nil ?_
  refine hK2 _ _ _ ?_
  refine W.known_f rfl (by first | rfl | decide | exact decide_eq_true (by omega) | exact decide_eq_false (by omega) | exact decide_eq_false (fun hh => hh rfl)) ?_
  refine W.skip ?_
  refine hK1 _ _ _ ?_
  refine W.seq (fun K3 hK3 => ?_)
  refine W.region ?_
  refine O.ex (Ex.move rfl) rfl ?_
  refine O.callF Try.call27 rfl rfl (CT.mono (newIH_ct (by assumption)) ?_)
  rintro _ w hx
  rcases hx with ⟨hn, rfl, H⟩ | ⟨hn, h, rfl, H⟩
  · refine O.ex (Ex.move rfl) rfl ?_
    refine O.ex (Ex.extract rfl rfl) rfl ?_
    refine O.ex (Ex.extract rfl rfl) rfl ?_
    refine O.ex (Ex.assign rfl) rfl ?_
    refine O.ex (Ex.assign rfl) rfl ?_
    refine O.nil ?_
    refine hK3 _ _ _ ?_
    refine W.seq (fun K4 hK4 => ?_)
    refine W.seq (fun K5 hK5 => ?_)
    refine W.region ?_
    refine O.ex (Ex.move rfl) rfl ?_
    refine O.ex (Ex.lss rfl rfl) rfl ?_
    refine O.ex (Ex.move rfl) rfl ?_
    first | refine O.split_p (t := 35) rfl (fun h35 => ?_) (fun h35 => ?_) | refine O.split (t := 35) rfl (fun h35 => ?_) (fun h35 => ?_)
    · refine O.guard_f rfl rfl rfl rfl ?_
      refine O.guard_f rfl rfl rfl rfl ?_
      refine O.ex (Ex.pick_t rfl rfl) rfl ?_
      refine O.nil ?_
      refine hK5 _ _ _ ?_
      refine W.cond_t rfl ?_
      refine W.seq (fun K6 hK6 => ?_)
      refine W.region ?_
      refine O.ex (Ex.move rfl) rfl ?_
      refine O.ex (Ex.nilEq Try.runUnderlying42 rfl rfl) rfl ?_
      refine O.ex (Ex.move rfl) rfl ?_
      refine O.known (t := 41) (c := true) rfl (by first | rfl | decide | exact decide_eq_true (by omega) | exact decide_eq_false (by omega) | exact decide_eq_false (fun hh => hh rfl)) ?_
      refine O.guard_t rfl rfl ?_
      refine O.ex (Ex.move rfl) rfl ?_
      refine O.guard_t rfl rfl ?_
      refine O.ex (Ex.eqlI rfl rfl) rfl ?_
      refine O.ex (Ex.pick_t rfl rfl) rfl ?_
      refine O.ex (Ex.assign rfl) rfl ?_
      refine O.nil ?_
      refine hK6 _ _ _ ?_
      refine W.ret ?_
      try dsimp only [thenQ, blockQ, retQ]
      first | refine ⟨_, ⟨_, _, rfl, rfl, rfl⟩, ?_⟩ | (refine retD_mark ?_; intro w H; refine ⟨_, ⟨_, _, rfl, rfl, rfl⟩, ?_⟩) | (refine retD_mark2 ?_; intro w H; refine ⟨_, ⟨_, _, rfl, rfl, rfl⟩, ?_⟩)
      exact ⟨by first | rfl | exact congrArg Value.bool (by decide), Holds.base_below (L := []) (Holds.to (by assumption))⟩
    · refine O.guard_t rfl rfl ?_
      refine O.ex (Ex.move rfl) rfl ?_
      refine O.guard_t rfl rfl ?_
      refine O.ex (Ex.gtr rfl rfl) rfl ?_
      refine O.ex (Ex.pick_f rfl rfl) rfl ?_
      refine O.nil ?_
      refine hK5 _ _ _ ?_
      refine W.known_t rfl (by first | rfl | decide | exact decide_eq_true (by omega) | exact decide_eq_false (by omega) | exact decide_eq_false (fun hh => hh rfl)) ?_
      refine W.seq (fun K7 hK7 => ?_)
      refine W.region ?_
      refine O.ex (Ex.move rfl) rfl ?_
      refine O.ex (Ex.nilEq Try.runUnderlying42 rfl rfl) rfl ?_
      refine O.ex (Ex.move rfl) rfl ?_
      refine O.known (t := 41) (c := true) rfl (by first | rfl | decide | exact decide_eq_true (by omega) | exact decide_eq_false (by omega) | exact decide_eq_false (fun hh => hh rfl)) ?_
      refine O.guard_t rfl rfl ?_
      refine O.ex (Ex.move rfl) rfl ?_
      refine O.guard_t rfl rfl ?_
      refine O.ex (Ex.eqlI rfl rfl) rfl ?_
      refine O.ex (Ex.pick_t rfl rfl) rfl ?_
      refine O.ex (Ex.assign rfl) rfl ?_
      refine O.nil ?_
      refine hK7 _ _ _ ?_
      refine W.ret ?_
      try dsimp only [thenQ, blockQ, retQ]
      first | refine ⟨_, ⟨_, _, rfl, rfl, rfl⟩, ?_⟩ | (refine retD_mark ?_; intro w H; refine ⟨_, ⟨_, _, rfl, rfl, rfl⟩, ?_⟩) | (refine retD_mark2 ?_; intro w H; refine ⟨_, ⟨_, _, rfl, rfl, rfl⟩, ?_⟩)
      exact ⟨by first | rfl | exact congrArg Value.bool (by decide), Holds.base_below (L := []) (Holds.to (by assumption))⟩
  · refine O.ex (Ex.move rfl) rfl ?_
    refine O.ex (Ex.extract rfl rfl) rfl ?_
    refine O.ex (Ex.extract rfl rfl) rfl ?_
    refine O.ex (Ex.assign rfl) rfl ?_
    refine O.ex (Ex.assign rfl) rfl ?_
    refine O.nil ?_
    refine hK3 _ _ _ ?_
    refine W.seq (fun K8 hK8 => ?_)
    refine W.seq (fun K9 hK9 => ?_)
    refine W.region ?_
    refine O.ex (Ex.move rfl) rfl ?_
    refine O.ex (Ex.lss rfl rfl) rfl ?_
    refine O.ex (Ex.move rfl) rfl ?_
    refine O.known (t := 35) (c := false) rfl (by first | rfl | decide | exact decide_eq_true (by omega) | exact decide_eq_false (by omega) | exact decide_eq_false (fun hh => hh rfl)) ?_
    refine O.guard_t rfl rfl ?_
    refine O.ex (Ex.move rfl) rfl ?_
    refine O.guard_t rfl rfl ?_
    refine O.ex (Ex.gtr rfl rfl) rfl ?_
    refine O.ex (Ex.pick_f rfl rfl) rfl ?_
    refine O.nil ?_
    refine hK9 _ _ _ ?_
    refine W.known_f rfl (by first | rfl | decide | exact decide_eq_true (by omega) | exact decide_eq_false (by omega) | exact decide_eq_false (fun hh => hh rfl)) ?_
    refine W.skip ?_
    refine hK8 _ _ _ ?_
    refine W.seq (fun K10 hK10 => ?_)
    refine W.seq (fun K11 hK11 => ?_)
    refine W.region ?_
    refine O.ex (Ex.move rfl) rfl ?_
    refine O.ex (Ex.nilEq Try.runUnderlying42 rfl rfl) rfl ?_
    refine O.ex (Ex.move rfl) rfl ?_
    refine O.known (t := 47) (c := false) rfl (by first | rfl | decide | exact decide_eq_true (by omega) | exact decide_eq_false (by omega) | exact decide_eq_false (fun hh => hh rfl)) ?_
    refine O.guard_t rfl rfl ?_
    refine O.ex (Ex.move rfl) rfl ?_
    refine O.guard_t rfl rfl ?_
    refine O.ex (Ex.neqI rfl rfl) rfl ?_
    refine O.ex (Ex.pick_f rfl rfl) rfl ?_
    refine O.nil ?_
    refine hK11 _ _ _ ?_
    refine W.known_f rfl (by first | rfl | decide | exact decide_eq_true (by omega) | exact decide_eq_false (by omega) | exact decide_eq_false (fun hh => hh rfl)) ?_
    refine W.skip ?_
    refine hK10 _ _ _ ?_
    refine W.seq (fun K12 hK12 => ?_)
    refine W.region ?_
    refine O.ex (Ex.move rfl) rfl ?_
    refine O.callF Try.call28 rfl rfl (CT.mono (rfNew_ct (by omega) (by omega) (by assumption)) ?_)
    rintro _ w ⟨r, rfl, H⟩
    refine O.ex (Ex.assign rfl) rfl ?_
    refine O.nil ?_
    refine hK12 _ _ _ ?_
    refine W.seq (fun K13 hK13 => ?_)
    refine W.seq (fun K14 hK14 => ?_)
    refine W.region ?_
    refine O.ex (Ex.assign rfl) rfl ?_
    refine O.nil ?_
    refine hK14 _ _ _ ?_
    refine W.block ?_
    have hln : (List.replicate n.toNat (none : Option Int)).length ≤ 64 := by rw [List.length_replicate]; omega
    refine W.loop (σ := Nat × List (Option Int)) (fun z => [(1, sv), (5, .pointer (some ⟨h, 0, none⟩)), (7, .pointer (some ⟨r, 0, none⟩)), (8, .int .i64 (z.1 : Int))]) (fun z ds w => ds = [] ∧ z.2.length ≤ 64 ∧ Holds w [HqI h z.2, Rf r z.2, base w0]) (fun z => sc.length - z.1) (0, List.replicate n.toNat none) ⟨rfl, rfl, rfl, rfl, trivial⟩ ⟨rfl, hln, Holds.to (by assumption)⟩ ?_
    clear H hln
    rintro ⟨i, s⟩ _ w ⟨rfl, hls, H⟩
    dsimp only at hls H ⊢
    refine W.seq (fun K15 hK15 => ?_)
    refine W.seq (fun K16 hK16 => ?_)
    refine W.region ?_
    refine O.ex (Ex.move rfl) rfl ?_
    refine O.ex (Ex.move rfl) rfl ?_
    refine O.ex (by first | exact Ex.lenN Try.runUnderlying63 rfl | exact Ex.lenIn Try.runUnderlying63 rfl | exact Ex.lenL Try.runUnderlying63 rfl | exact Ex.len rfl Try.runUnderlying63 rfl) rfl ?_
    refine O.ex (Ex.lss rfl rfl) rfl ?_
    refine O.ex (Ex.move rfl) rfl ?_
    first | refine O.split_p (t := 57) rfl (fun hlt => ?_) (fun hge => ?_) | refine O.split (t := 57) rfl (fun hlt => ?_) (fun hge => ?_)
    · refine O.guard_t rfl rfl ?_
      refine O.ex (Ex.move rfl) rfl ?_
      refine O.guard_t rfl rfl ?_
      refine O.ex (Ex.lss rfl rfl) rfl ?_
      refine O.ex (Ex.pick_t rfl rfl) rfl ?_
      refine O.nil ?_
      refine hK16 _ _ _ ?_
      first | refine W.cond_p rfl (fun h200 => ?_) (fun h200' => ?_) | refine W.cond_b rfl (fun h200 => ?_) (fun h200' => ?_)
      · refine W.skip ?_
        refine hK15 _ _ _ ?_
        refine W.seq (fun K17 hK17 => ?_)
        refine W.block ?_
        refine W.seq (fun K18 hK18 => ?_)
        refine W.region ?_
        have hi0 : (0 : Int) ≤ (i : Int) := by omega
        have hi1 : (i : Int) < (sc.length : Int) := hlt
        have hi2 : ((i : Nat) : Int).toNat < sc.length := by omega
        refine O.ex (Ex.move rfl) rfl ?_
        refine O.ex (Ex.move rfl) rfl ?_
        refine O.ex (by first | exact Ex.idxN Try.runUnderlying63 Try.sizeOf65 rfl rfl | exact Ex.idxSN Try.runUnderlying63 Try.sizeOf65 rfl rfl | exact Ex.idxIn Try.runUnderlying63 Try.sizeOf65 rfl rfl | exact Ex.idx Try.runUnderlying63 Try.sizeOf65 rfl rfl (by omega) (by omega)) rfl ?_
        refine O.ex (by first | exact Ex.loadAggP Try.isAgg65 Try.sizeOf65 rfl | exact Ex.loadAggN Try.isAgg65 Try.sizeOf65 rfl | exact Ex.loadIn Try.isAgg65 Try.sizeOf65 rfl (Holds.to (by assumption))) rfl ?_
        refine O.allocP Try.zeroValue65 (fun b9 w H => ?_)
        first | refine O.storeAggP Try.sizeOf65 rfl rfl rfl rfl (fun w H => ?_) | refine O.storeAggN Try.sizeOf65 rfl rfl rfl (fun w H => ?_) rfl
        refine O.nil ?_
        refine hK18 _ _ _ ?_
        refine W.seq (fun K19 hK19 => ?_)
        refine W.seq (fun K20 hK20 => ?_)
        refine W.region ?_
        refine O.ex (by first | exact Ex.field0 fld65_0 rfl | exact Ex.field fld65_0 rfl | exact Ex.fieldS fld65_0 rfl) rfl ?_
        refine O.ex (by first | exact Ex.loadP Try.isAgg3 rfl | exact Ex.loadR Try.isAgg3 rfl | exact Ex.loadIn1 Try.isAgg3 rfl (Holds.to (by assumption))) rfl ?_
        refine O.ex (Ex.eqlI rfl rfl) rfl ?_
        refine O.nil ?_
        refine hK20 _ _ _ ?_
        first | refine W.cond_p rfl (fun hk0 => ?_) (fun hk1 => ?_) | refine W.cond_b rfl (fun hk0 => ?_) (fun hk1 => ?_)
        · refine W.seq (fun K21 hK21 => ?_)
          refine W.drawTo (pt b9 _ :: []) (.take 0 (.take 1 (.take 2 (.take 3 (.take 4 (.take 6 (.take 7 (.take 8 (.take 9 (.take 10 (.one 5 (.one 11 (.take 12 .nil))))))))))))) (mixed) (fun _ _ _ _ h => h) (by assumption) PP.auto (by decide +kernel) (fun w H => ?_)
          refine OQ.ex rfl (fun w H => (Ex.move rfl)) rfl ?_
          refine OQ.ex rfl (fun w H => (by first | exact Ex.field0 fld65_1 rfl | exact Ex.field fld65_1 rfl | exact Ex.fieldS fld65_1 rfl)) rfl ?_
          refine OQ.ex rfl (fun w H => (by first | exact Ex.loadP Try.isAgg3 rfl | exact Ex.loadR Try.isAgg3 rfl | exact Ex.loadIn1 Try.isAgg3 rfl (Holds.to (by assumption)))) rfl ?_
          refine OQ.ex rfl (fun w H => (by first | exact Ex.field0 fld65_2 rfl | exact Ex.field fld65_2 rfl | exact Ex.fieldS fld65_2 rfl)) rfl ?_
          refine OQ.ex rfl (fun w H => (by first | exact Ex.loadP Try.isAgg3 rfl | exact Ex.loadR Try.isAgg3 rfl | exact Ex.loadIn1 Try.isAgg3 rfl (Holds.to (by assumption)))) rfl ?_
          refine OQ.ex rfl (fun w H => (Ex.move rfl)) rfl ?_
          refine OQ.ex rfl (fun w H => (by first | exact Ex.field0 fld65_1 rfl | exact Ex.field fld65_1 rfl | exact Ex.fieldS fld65_1 rfl)) rfl ?_
          refine OQ.ex rfl (fun w H => (by first | exact Ex.loadP Try.isAgg3 rfl | exact Ex.loadR Try.isAgg3 rfl | exact Ex.loadIn1 Try.isAgg3 rfl (Holds.to (by assumption)))) rfl ?_
          refine OQ.ex rfl (fun w H => (by first | exact Ex.field0 fld65_2 rfl | exact Ex.field fld65_2 rfl | exact Ex.fieldS fld65_2 rfl)) rfl ?_
          refine OQ.ex rfl (fun w H => (by first | exact Ex.loadP Try.isAgg3 rfl | exact Ex.loadR Try.isAgg3 rfl | exact Ex.loadIn1 Try.isAgg3 rfl (Holds.to (by assumption)))) rfl ?_
          refine OQ.step rfl ?_
          refine O.callF Try.call29 rfl rfl (CT.mono (putIH_ct (s := s) (Holds.to (by assumption))) ?_)
          rintro _ w ⟨rfl, H⟩
          refine O.thenNil ⟨(by first | exact Holds.to (by assumption) | assumption), ?_⟩
          refine OQ.step rfl ?_
          refine O.callF Try.call30 rfl rfl (CT.mono (rfPut_ct (s := s) (Holds.to (by assumption))) ?_)
          rintro _ w ⟨rfl, H⟩
          obtain ⟨s2, hs2, hsd⟩ : ∃ s2 : List (Option Int), s2.length ≤ 64 ∧ putL RI s (sc.getD ((i : Nat) : Int).toNat default).f_Thing (sc.getD ((i : Nat) : Int).toNat default).f_P = s2 := ⟨_, by rw [putL_len]; exact hls, rfl⟩
          rw [hsd] at H
          refine O.thenNil ⟨(by first | exact Holds.to (by assumption) | assumption), ?_⟩
          refine OQ.ex rfl (fun w H => (Ex.neqI rfl rfl)) rfl ?_
          refine OQ.done ?_
          refine hK21 _ _ _ ?_
          refine W.known_f rfl (by first | rfl | decide | exact decide_eq_true (by omega) | exact decide_eq_false (by omega) | exact decide_eq_false (fun hh => hh rfl)) ?_
          refine W.skip ?_
          refine hK19 _ _ _ ?_
          refine W.seq (fun K22 hK22 => ?_)
          refine W.region ?_
          refine O.ex (Ex.move rfl) rfl ?_
          refine O.callF Try.call36 rfl rfl (CT.mono (peekIH_ct (Holds.to (by assumption))) ?_)
          rintro _ w ⟨rfl, H⟩
          refine O.ex (Ex.move rfl) rfl ?_
          refine O.ex (Ex.extract rfl rfl) rfl ?_
          refine O.ex (Ex.extract rfl rfl) rfl ?_
          refine O.ex (Ex.extract rfl rfl) rfl ?_
          refine O.ex (Ex.assign rfl) rfl ?_
          refine O.ex (Ex.assign rfl) rfl ?_
          refine O.ex (Ex.assign rfl) rfl ?_
          refine O.nil ?_
          refine hK22 _ _ _ ?_
          refine W.seq (fun K23 hK23 => ?_)
          refine W.region ?_
          refine O.ex (Ex.move rfl) rfl ?_
          refine O.callF Try.call39 rfl rfl (CT.mono (rfPeek_ct hs2 (Holds.to (by assumption))) ?_)
          rintro _ w ⟨rfl, H⟩
          refine O.ex (Ex.move rfl) rfl ?_
          refine O.ex (Ex.extract rfl rfl) rfl ?_
          refine O.ex (Ex.extract rfl rfl) rfl ?_
          refine O.ex (Ex.extract rfl rfl) rfl ?_
          refine O.ex (Ex.assign rfl) rfl ?_
          refine O.ex (Ex.assign rfl) rfl ?_
          refine O.ex (Ex.assign rfl) rfl ?_
          refine O.nil ?_
          refine hK23 _ _ _ ?_
          refine W.seq (fun K24 hK24 => ?_)
          refine W.region ?_
          refine O.ex (Ex.move rfl) rfl ?_
          refine O.ex (by first | exact Ex.field0 fld65_1 rfl | exact Ex.field fld65_1 rfl | exact Ex.fieldS fld65_1 rfl) rfl ?_
          refine O.ex (by first | exact Ex.loadP Try.isAgg3 rfl | exact Ex.loadR Try.isAgg3 rfl | exact Ex.loadIn1 Try.isAgg3 rfl (Holds.to (by assumption))) rfl ?_
          refine O.callF Try.call40 rfl rfl (CT.mono (atIH_ct (Holds.to (by assumption))) ?_)
          rintro _ w ⟨rfl, H⟩
          refine O.ex (Ex.move rfl) rfl ?_
          refine O.ex (Ex.extract rfl rfl) rfl ?_
          refine O.ex (Ex.extract rfl rfl) rfl ?_
          refine O.ex (Ex.assign rfl) rfl ?_
          refine O.ex (Ex.assign rfl) rfl ?_
          refine O.nil ?_
          refine hK24 _ _ _ ?_
          refine W.seq (fun K25 hK25 => ?_)
          refine W.region ?_
          refine O.ex (Ex.move rfl) rfl ?_
          refine O.ex (by first | exact Ex.field0 fld65_1 rfl | exact Ex.field fld65_1 rfl | exact Ex.fieldS fld65_1 rfl) rfl ?_
          refine O.ex (by first | exact Ex.loadP Try.isAgg3 rfl | exact Ex.loadR Try.isAgg3 rfl | exact Ex.loadIn1 Try.isAgg3 rfl (Holds.to (by assumption))) rfl ?_
          refine O.callF Try.call41 rfl rfl (CT.mono (rfAt_ct (Holds.to (by assumption))) ?_)
          rintro _ w ⟨rfl, H⟩
          refine O.ex (Ex.move rfl) rfl ?_
          refine O.ex (Ex.extract rfl rfl) rfl ?_
          refine O.ex (Ex.extract rfl rfl) rfl ?_
          refine O.ex (Ex.assign rfl) rfl ?_
          refine O.ex (Ex.assign rfl) rfl ?_
          refine O.nil ?_
          refine hK25 _ _ _ ?_
          refine W.seq (fun K26 hK26 => ?_)
          refine W.region ?_
          refine O.ex (Ex.move rfl) rfl ?_
          refine O.ex (Ex.move rfl) rfl ?_
          refine O.ex (Ex.neqI rfl rfl) rfl ?_
          refine O.ex (Ex.move rfl) rfl ?_
          refine O.known (t := 137) (c := false) rfl (by first | rfl | decide | exact decide_eq_true (by omega) | exact decide_eq_false (by omega) | exact decide_eq_false (fun hh => hh rfl)) ?_
          refine O.guard_t rfl rfl ?_
          refine O.ex (Ex.move rfl) rfl ?_
          refine O.guard_t rfl rfl ?_
          refine O.ex (Ex.move rfl) rfl ?_
          refine O.guard_t rfl rfl ?_
          refine O.ex (Ex.neqI rfl rfl) rfl ?_
          refine O.ex (Ex.pick_f rfl rfl) rfl ?_
          refine O.ex (Ex.move rfl) rfl ?_
          refine O.known (t := 142) (c := false) rfl (by first | rfl | decide | exact decide_eq_true (by omega) | exact decide_eq_false (by omega) | exact decide_eq_false (fun hh => hh rfl)) ?_
          refine O.guard_t rfl rfl ?_
          refine O.ex (Ex.move rfl) rfl ?_
          refine O.guard_t rfl rfl ?_
          refine O.ex (Ex.move rfl) rfl ?_
          refine O.guard_t rfl rfl ?_
          refine O.ex (Ex.neqB Try.runUnderlying4 rfl rfl) rfl ?_
          refine O.ex (Ex.pick_f rfl rfl) rfl ?_
          refine O.ex (Ex.move rfl) rfl ?_
          refine O.known (t := 147) (c := false) rfl (by first | rfl | decide | exact decide_eq_true (by omega) | exact decide_eq_false (by omega) | exact decide_eq_false (fun hh => hh rfl)) ?_
          refine O.guard_t rfl rfl ?_
          refine O.ex (Ex.move rfl) rfl ?_
          refine O.guard_t rfl rfl ?_
          refine O.ex (Ex.move rfl) rfl ?_
          refine O.guard_t rfl rfl ?_
          refine O.ex (Ex.neqI rfl rfl) rfl ?_
          refine O.ex (Ex.pick_f rfl rfl) rfl ?_
          refine O.ex (Ex.move rfl) rfl ?_
          refine O.known (t := 152) (c := false) rfl (by first | rfl | decide | exact decide_eq_true (by omega) | exact decide_eq_false (by omega) | exact decide_eq_false (fun hh => hh rfl)) ?_
          refine O.guard_t rfl rfl ?_
          refine O.ex (Ex.move rfl) rfl ?_
          refine O.guard_t rfl rfl ?_
          refine O.ex (Ex.move rfl) rfl ?_
          refine O.guard_t rfl rfl ?_
          refine O.ex (Ex.neqB Try.runUnderlying4 rfl rfl) rfl ?_
          refine O.ex (Ex.pick_f rfl rfl) rfl ?_
          refine O.ex (Ex.move rfl) rfl ?_
          refine O.known (t := 157) (c := false) rfl (by first | rfl | decide | exact decide_eq_true (by omega) | exact decide_eq_false (by omega) | exact decide_eq_false (fun hh => hh rfl)) ?_
          refine O.guard_t rfl rfl ?_
          refine O.ex (Ex.move rfl) rfl ?_
          refine O.guard_t rfl rfl ?_
          refine O.callF Try.call37 rfl rfl (CT.mono (lenIH_ct (Holds.to (by assumption))) ?_)
          rintro _ w ⟨rfl, H⟩
          refine O.guard_t rfl rfl ?_
          refine O.ex (Ex.move rfl) rfl ?_
          refine O.guard_t rfl rfl ?_
          refine O.callF Try.call42 rfl rfl (CT.mono (rfLen_ct hs2 (Holds.to (by assumption))) ?_)
          rintro _ w ⟨rfl, H⟩
          refine O.guard_t rfl rfl ?_
          refine O.ex (Ex.neqI rfl rfl) rfl ?_
          refine O.ex (Ex.pick_f rfl rfl) rfl ?_
          refine O.nil ?_
          refine hK26 _ _ _ ?_
          refine W.known_f rfl (by first | rfl | decide | exact decide_eq_true (by omega) | exact decide_eq_false (by omega) | exact decide_eq_false (fun hh => hh rfl)) ?_
          refine W.skip ?_
          refine hK17 _ _ _ ?_
          refine W.region ?_
          refine O.ex (Ex.move rfl) rfl ?_
          refine O.ex (by first | exact Ex.addI rfl rfl | exact Ex.add rfl rfl rfl) rfl ?_
          refine O.ex (Ex.assign rfl) rfl ?_
          refine O.nil ?_
          exact ⟨(i + 1, s2), ⟨rfl, rfl, rfl, rfl, trivial⟩, ⟨rfl, hs2, Holds.to (by assumption)⟩, by dsimp only; omega⟩
        · refine W.seq (fun K27 hK27 => ?_)
          refine W.region ?_
          refine O.ex (Ex.move rfl) rfl ?_
          refine O.callF Try.call31 rfl rfl (CT.mono (popI1_ct (s := s) (Holds.to (by assumption))) ?_)
          rintro _ w ⟨rfl, H⟩
          refine O.ex (Ex.move rfl) rfl ?_
          refine O.ex (Ex.extract rfl rfl) rfl ?_
          refine O.ex (Ex.extract rfl rfl) rfl ?_
          refine O.ex (Ex.extract rfl rfl) rfl ?_
          refine O.ex (Ex.assign rfl) rfl ?_
          refine O.ex (Ex.assign rfl) rfl ?_
          refine O.ex (Ex.assign rfl) rfl ?_
          refine O.nil ?_
          refine hK27 _ _ _ ?_
          refine W.seq (fun K28 hK28 => ?_)
          refine W.region ?_
          refine O.ex (Ex.move rfl) rfl ?_
          refine O.callF Try.call38 rfl rfl (CT.mono (rfPop_ct (s := s) hls (Holds.to (by assumption))) ?_)
          rintro _ w ⟨rfl, H⟩
          refine O.ex (Ex.move rfl) rfl ?_
          refine O.ex (Ex.extract rfl rfl) rfl ?_
          refine O.ex (Ex.extract rfl rfl) rfl ?_
          refine O.ex (Ex.extract rfl rfl) rfl ?_
          refine O.ex (Ex.assign rfl) rfl ?_
          refine O.ex (Ex.assign rfl) rfl ?_
          refine O.ex (Ex.assign rfl) rfl ?_
          refine O.nil ?_
          refine hK28 _ _ _ ?_
          refine W.seq (fun K29 hK29 => ?_)
          refine W.region ?_
          refine O.ex (Ex.move rfl) rfl ?_
          refine O.ex (Ex.move rfl) rfl ?_
          refine O.ex (Ex.neqI rfl rfl) rfl ?_
          refine O.ex (Ex.move rfl) rfl ?_
          refine O.known (t := 98) (c := false) rfl (by first | rfl | decide | exact decide_eq_true (by omega) | exact decide_eq_false (by omega) | exact decide_eq_false (fun hh => hh rfl)) ?_
          refine O.guard_t rfl rfl ?_
          refine O.ex (Ex.move rfl) rfl ?_
          refine O.guard_t rfl rfl ?_
          refine O.ex (Ex.move rfl) rfl ?_
          refine O.guard_t rfl rfl ?_
          refine O.ex (Ex.neqI rfl rfl) rfl ?_
          refine O.ex (Ex.pick_f rfl rfl) rfl ?_
          refine O.ex (Ex.move rfl) rfl ?_
          refine O.known (t := 103) (c := false) rfl (by first | rfl | decide | exact decide_eq_true (by omega) | exact decide_eq_false (by omega) | exact decide_eq_false (fun hh => hh rfl)) ?_
          refine O.guard_t rfl rfl ?_
          refine O.ex (Ex.move rfl) rfl ?_
          refine O.guard_t rfl rfl ?_
          refine O.ex (Ex.move rfl) rfl ?_
          refine O.guard_t rfl rfl ?_
          refine O.ex (Ex.neqB Try.runUnderlying4 rfl rfl) rfl ?_
          refine O.ex (Ex.pick_f rfl rfl) rfl ?_
          obtain ⟨s2, hs2, hsd⟩ : ∃ s2 : List (Option Int), s2.length ≤ 64 ∧ popL RI s = s2 := ⟨_, by rw [popL_len]; exact hls, rfl⟩
          rw [hsd] at H
          refine O.nil ?_
          refine hK29 _ _ _ ?_
          refine W.known_f rfl (by first | rfl | decide | exact decide_eq_true (by omega) | exact decide_eq_false (by omega) | exact decide_eq_false (fun hh => hh rfl)) ?_
          refine W.skip ?_
          refine hK19 _ _ _ ?_
          refine W.seq (fun K30 hK30 => ?_)
          refine W.region ?_
          refine O.ex (Ex.move rfl) rfl ?_
          refine O.callF Try.call36 rfl rfl (CT.mono (peekIH_ct (Holds.to (by assumption))) ?_)
          rintro _ w ⟨rfl, H⟩
          refine O.ex (Ex.move rfl) rfl ?_
          refine O.ex (Ex.extract rfl rfl) rfl ?_
          refine O.ex (Ex.extract rfl rfl) rfl ?_
          refine O.ex (Ex.extract rfl rfl) rfl ?_
          refine O.ex (Ex.assign rfl) rfl ?_
          refine O.ex (Ex.assign rfl) rfl ?_
          refine O.ex (Ex.assign rfl) rfl ?_
          refine O.nil ?_
          refine hK30 _ _ _ ?_
          refine W.seq (fun K31 hK31 => ?_)
          refine W.region ?_
          refine O.ex (Ex.move rfl) rfl ?_
          refine O.callF Try.call39 rfl rfl (CT.mono (rfPeek_ct hs2 (Holds.to (by assumption))) ?_)
          rintro _ w ⟨rfl, H⟩
          refine O.ex (Ex.move rfl) rfl ?_
          refine O.ex (Ex.extract rfl rfl) rfl ?_
          refine O.ex (Ex.extract rfl rfl) rfl ?_
          refine O.ex (Ex.extract rfl rfl) rfl ?_
          refine O.ex (Ex.assign rfl) rfl ?_
          refine O.ex (Ex.assign rfl) rfl ?_
          refine O.ex (Ex.assign rfl) rfl ?_
          refine O.nil ?_
          refine hK31 _ _ _ ?_
          refine W.seq (fun K32 hK32 => ?_)
          refine W.region ?_
          refine O.ex (Ex.move rfl) rfl ?_
          refine O.ex (by first | exact Ex.field0 fld65_1 rfl | exact Ex.field fld65_1 rfl | exact Ex.fieldS fld65_1 rfl) rfl ?_
          refine O.ex (by first | exact Ex.loadP Try.isAgg3 rfl | exact Ex.loadR Try.isAgg3 rfl | exact Ex.loadIn1 Try.isAgg3 rfl (Holds.to (by assumption))) rfl ?_
          refine O.callF Try.call40 rfl rfl (CT.mono (atIH_ct (Holds.to (by assumption))) ?_)
          rintro _ w ⟨rfl, H⟩
          refine O.ex (Ex.move rfl) rfl ?_
          refine O.ex (Ex.extract rfl rfl) rfl ?_
          refine O.ex (Ex.extract rfl rfl) rfl ?_
          refine O.ex (Ex.assign rfl) rfl ?_
          refine O.ex (Ex.assign rfl) rfl ?_
          refine O.nil ?_
          refine hK32 _ _ _ ?_
          refine W.seq (fun K33 hK33 => ?_)
          refine W.region ?_
          refine O.ex (Ex.move rfl) rfl ?_
          refine O.ex (by first | exact Ex.field0 fld65_1 rfl | exact Ex.field fld65_1 rfl | exact Ex.fieldS fld65_1 rfl) rfl ?_
          refine O.ex (by first | exact Ex.loadP Try.isAgg3 rfl | exact Ex.loadR Try.isAgg3 rfl | exact Ex.loadIn1 Try.isAgg3 rfl (Holds.to (by assumption))) rfl ?_
          refine O.callF Try.call41 rfl rfl (CT.mono (rfAt_ct (Holds.to (by assumption))) ?_)
          rintro _ w ⟨rfl, H⟩
          refine O.ex (Ex.move rfl) rfl ?_
          refine O.ex (Ex.extract rfl rfl) rfl ?_
          refine O.ex (Ex.extract rfl rfl) rfl ?_
          refine O.ex (Ex.assign rfl) rfl ?_
          refine O.ex (Ex.assign rfl) rfl ?_
          refine O.nil ?_
          refine hK33 _ _ _ ?_
          refine W.seq (fun K34 hK34 => ?_)
          refine W.region ?_
          refine O.ex (Ex.move rfl) rfl ?_
          refine O.ex (Ex.move rfl) rfl ?_
          refine O.ex (Ex.neqI rfl rfl) rfl ?_
          refine O.ex (Ex.move rfl) rfl ?_
          refine O.known (t := 137) (c := false) rfl (by first | rfl | decide | exact decide_eq_true (by omega) | exact decide_eq_false (by omega) | exact decide_eq_false (fun hh => hh rfl)) ?_
          refine O.guard_t rfl rfl ?_
          refine O.ex (Ex.move rfl) rfl ?_
          refine O.guard_t rfl rfl ?_
          refine O.ex (Ex.move rfl) rfl ?_
          refine O.guard_t rfl rfl ?_
          refine O.ex (Ex.neqI rfl rfl) rfl ?_
          refine O.ex (Ex.pick_f rfl rfl) rfl ?_
          refine O.ex (Ex.move rfl) rfl ?_
          refine O.known (t := 142) (c := false) rfl (by first | rfl | decide | exact decide_eq_true (by omega) | exact decide_eq_false (by omega) | exact decide_eq_false (fun hh => hh rfl)) ?_
          refine O.guard_t rfl rfl ?_
          refine O.ex (Ex.move rfl) rfl ?_
          refine O.guard_t rfl rfl ?_
          refine O.ex (Ex.move rfl) rfl ?_
          refine O.guard_t rfl rfl ?_
          refine O.ex (Ex.neqB Try.runUnderlying4 rfl rfl) rfl ?_
          refine O.ex (Ex.pick_f rfl rfl) rfl ?_
          refine O.ex (Ex.move rfl) rfl ?_
          refine O.known (t := 147) (c := false) rfl (by first | rfl | decide | exact decide_eq_true (by omega) | exact decide_eq_false (by omega) | exact decide_eq_false (fun hh => hh rfl)) ?_
          refine O.guard_t rfl rfl ?_
          refine O.ex (Ex.move rfl) rfl ?_
          refine O.guard_t rfl rfl ?_
          refine O.ex (Ex.move rfl) rfl ?_
          refine O.guard_t rfl rfl ?_
          refine O.ex (Ex.neqI rfl rfl) rfl ?_
          refine O.ex (Ex.pick_f rfl rfl) rfl ?_
          refine O.ex (Ex.move rfl) rfl ?_
          refine O.known (t := 152) (c := false) rfl (by first | rfl | decide | exact decide_eq_true (by omega) | exact decide_eq_false (by omega) | exact decide_eq_false (fun hh => hh rfl)) ?_
          refine O.guard_t rfl rfl ?_
          refine O.ex (Ex.move rfl) rfl ?_
          refine O.guard_t rfl rfl ?_
          refine O.ex (Ex.move rfl) rfl ?_
          refine O.guard_t rfl rfl ?_
          refine O.ex (Ex.neqB Try.runUnderlying4 rfl rfl) rfl ?_
          refine O.ex (Ex.pick_f rfl rfl) rfl ?_
          refine O.ex (Ex.move rfl) rfl ?_
          refine O.known (t := 157) (c := false) rfl (by first | rfl | decide | exact decide_eq_true (by omega) | exact decide_eq_false (by omega) | exact decide_eq_false (fun hh => hh rfl)) ?_
          refine O.guard_t rfl rfl ?_
          refine O.ex (Ex.move rfl) rfl ?_
          refine O.guard_t rfl rfl ?_
          refine O.callF Try.call37 rfl rfl (CT.mono (lenIH_ct (Holds.to (by assumption))) ?_)
          rintro _ w ⟨rfl, H⟩
          refine O.guard_t rfl rfl ?_
          refine O.ex (Ex.move rfl) rfl ?_
          refine O.guard_t rfl rfl ?_
          refine O.callF Try.call42 rfl rfl (CT.mono (rfLen_ct hs2 (Holds.to (by assumption))) ?_)
          rintro _ w ⟨rfl, H⟩
          refine O.guard_t rfl rfl ?_
          refine O.ex (Ex.neqI rfl rfl) rfl ?_
          refine O.ex (Ex.pick_f rfl rfl) rfl ?_
          refine O.nil ?_
          refine hK34 _ _ _ ?_
          refine W.known_f rfl (by first | rfl | decide | exact decide_eq_true (by omega) | exact decide_eq_false (by omega) | exact decide_eq_false (fun hh => hh rfl)) ?_
          refine W.skip ?_
          refine hK17 _ _ _ ?_
          refine W.region ?_
          refine O.ex (Ex.move rfl) rfl ?_
          refine O.ex (by first | exact Ex.addI rfl rfl | exact Ex.add rfl rfl rfl) rfl ?_
          refine O.ex (Ex.assign rfl) rfl ?_
          refine O.nil ?_
          exact ⟨(i + 1, s2), ⟨rfl, rfl, rfl, rfl, trivial⟩, ⟨rfl, hs2, Holds.to (by assumption)⟩, by dsimp only; omega⟩
      · refine W.exit ?_
        refine hK13 _ _ _ ?_
        refine W.seq (fun K35 hK35 => ?_)
        refine W.region ?_
        refine O.ex (Ex.assign rfl) rfl ?_
        refine O.nil ?_
        refine hK35 _ _ _ ?_
        refine W.ret ?_
        try dsimp only [thenQ, blockQ, retQ]
        first | refine ⟨_, ⟨_, _, rfl, rfl, rfl⟩, ?_⟩ | (refine retD_mark ?_; intro w H; refine ⟨_, ⟨_, _, rfl, rfl, rfl⟩, ?_⟩) | (refine retD_mark2 ?_; intro w H; refine ⟨_, ⟨_, _, rfl, rfl, rfl⟩, ?_⟩)
        exact ⟨by first | rfl | exact congrArg Value.bool (by decide), Holds.base_below (L := []) (Holds.to (by assumption))⟩
    · refine O.guard_f rfl rfl rfl rfl ?_
      refine O.guard_f rfl rfl rfl rfl ?_
      refine O.ex (Ex.pick_f rfl rfl) rfl ?_
      refine O.nil ?_
      refine hK16 _ _ _ ?_
      refine W.cond_f rfl ?_
      refine W.exit ?_
      refine hK13 _ _ _ ?_
      refine W.seq (fun K36 hK36 => ?_)
      refine W.region ?_
      refine O.ex (Ex.assign rfl) rfl ?_
      refine O.nil ?_
      refine hK36 _ _ _ ?_
      refine W.ret ?_
      try dsimp only [thenQ, blockQ, retQ]
      first | refine ⟨_, ⟨_, _, rfl, rfl, rfl⟩, ?_⟩ | (refine retD_mark ?_; intro w H; refine ⟨_, ⟨_, _, rfl, rfl, rfl⟩, ?_⟩) | (refine retD_mark2 ?_; intro w H; refine ⟨_, ⟨_, _, rfl, rfl, rfl⟩, ?_⟩)
      exact ⟨by first | rfl | exact congrArg Value.bool (by decide), Holds.base_below (L := []) (Holds.to (by assumption))⟩
theorem heapPlays_row {w0 : World} {n : Int} {sv : Value} {sc : List ActH} (hw : (Lit.int .i64 n).wf = true) (hs : SlIn w0 3 ActH.enc sv sc) (ht : ∀ x ∈ sc, x.ok) (hl : sc.length ≤ maxLen) :
    CT Try.prog 11 [.int .i64 n, sv] w0 fun u w' => u = .bool true ∧ RowKit.Below w0.heap.size w0 w' :=
  heapPlays_ct hs (by unfold maxLen at hl; omega)
end Go.Proofs.Ythpmohkmjfhmmaa
