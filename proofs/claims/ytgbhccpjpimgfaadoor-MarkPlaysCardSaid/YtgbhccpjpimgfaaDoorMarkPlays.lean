import Derived.Test.YtgbhccpjpimgfaaDoorMark2
import Derived.Test.YtgbhccpjpimgfaaDoorMarkLaw2
import Derived.Test.YtgbhccpjpimgfaaDoorRrInF
namespace Go.Proofs.YtgbhccpjpimgfaaDoor
open Go.Rr Go Mq
set_option linter.unusedVariables false
structure ActQ where
  f_Kind : Int
  f_V : Int
  deriving Inhabited
def ActQ.enc (x : ActQ) : List Value := [.int .i64 x.f_Kind, .int .i64 x.f_V]
def ActQ.ok (x : ActQ) : Prop := (Lit.int .i64 x.f_Kind).wf = true ∧ (Lit.int .i64 x.f_V).wf = true
set_option maxRecDepth 100000 in
theorem ActQ.elem : ElemOk Tryd.prog 48 ActQ.enc ActQ.ok := fun H enc w base spare held fuel cs x h => by
  obtain ⟨ys, n, _, _, hl, hys, hf⟩ := DataW.trod_struct Tryd.underlying48 h
  have hc : Tryd.prog.cellsOf 48 = 2 := by kernel_rfl
  rw [hc] at hl
  have c3 : Tryd.prog.cellsOf 3 = 1 := by kernel_rfl
  match cs, hl with
  | [a0, a1], _ =>
    have hys' : ys.length = 2 := hys
    have h0 : DataW.trod enc Tryd.prog w base spare held n 3 (([a0, a1].drop 0).take (Tryd.prog.cellsOf 3)) = ys[0]? := hf 0 _ rfl
    rw [List.getElem?_eq_getElem (by omega), c3] at h0
    simp only [List.drop_zero, List.take_succ_cons, List.take_zero] at h0
    have h1 : DataW.trod enc Tryd.prog w base spare held n 3 (([a0, a1].drop 1).take (Tryd.prog.cellsOf 3)) = ys[1]? := hf 1 _ rfl
    rw [List.getElem?_eq_getElem (by omega), c3] at h1
    simp only [List.drop_succ_cons, List.drop_zero, List.take_succ_cons, List.take_zero] at h1
    obtain ⟨m0, e0, _, w0⟩ := DataW.trod_int Tryd.underlying3 h0
    simp only [List.cons.injEq, and_true] at e0
    subst e0
    obtain ⟨m1, e1, _, w1⟩ := DataW.trod_int Tryd.underlying3 h1
    simp only [List.cons.injEq, and_true] at e1
    subst e1
    exact ⟨⟨m0, m1⟩, rfl, w0, w1⟩
set_option maxHeartbeats 2000000 in
theorem markPlays_ct {w0 : World} {rv sv : Value} {rk : List Int} {sc : List ActQ} (hT : TabAt w0) (hx : SlIn w0 1 (fun s : Int => [.int .i64 s]) rv rk) (hlr : rk.length ≤ 9223372036854775807) (hs : SlIn w0 2 ActQ.enc sv sc) (hl : sc.length ≤ 9223372036854775807) :
    CT Tryd.prog 5 [rv, sv] w0 fun u w' => u = .bool true ∧ RowKit.Below w0.heap.size w0 w' := by
  have H := Holds.base_refl w0
  refine CT.enter (N := 114) Tryd.func5 rfl rfl rfl rfl ?_
  refine W.seq (fun K0 hK0 => ?_)
  refine W.region ?_
  refine O.ex (Ex.assign rfl) rfl ?_
  refine O.nil ?_
  refine hK0 _ _ _ ?_
  refine W.seq (fun K1 hK1 => ?_)
  refine W.seq (fun K2 hK2 => ?_)
  refine W.region ?_
  refine O.callF Tryd.call7 rfl rfl (CT.mono (awake18_ct hT (Holds.to (by assumption))) ?_)
  rintro _ w ⟨rfl, H⟩
  refine O.ex (by first | exact Ex.notD rfl | exact Ex.not rfl) rfl ?_
  refine O.nil ?_
  refine hK2 _ _ _ ?_
  refine W.known_f rfl (by first | rfl | exact decide_eq_false (fun h => h hr) | exact decide_eq_true hr | exact decide_eq_false (fun h => h rfl) | decide) ?_
  refine W.skip ?_
  refine hK1 _ _ _ ?_
  refine W.seq (fun K3 hK3 => ?_)
  refine W.seq (fun K4 hK4 => ?_)
  refine W.region ?_
  refine O.ex (Ex.move rfl) rfl ?_
  refine O.ex (by first | exact Ex.lenR Tryd.runUnderlying22 rfl | exact Ex.lenIn Tryd.runUnderlying22 rfl | exact Ex.lenL Tryd.runUnderlying22 rfl | exact Ex.len rfl Tryd.runUnderlying22 rfl) rfl ?_
  refine O.ex (Ex.gtr rfl rfl) rfl ?_
  refine O.nil ?_
  refine hK4 _ _ _ ?_
  first | refine W.cond_p rfl (fun hbig => ?_) (fun hle => ?_) | refine W.cond_b rfl (fun hbig => ?_) (fun hle => ?_)
  · refine W.seq (fun K5 hK5 => ?_)
    refine W.region ?_
    refine O.ex (Ex.assign rfl) rfl ?_
    refine O.nil ?_
    refine hK5 _ _ _ ?_
    refine W.ret ?_
    try dsimp only [thenQ, blockQ, retQ]
    first | refine ⟨_, ⟨_, _, rfl, rfl, rfl⟩, ?_⟩ | (refine retD_mark ?_; intro w H; refine ⟨_, ⟨_, _, rfl, rfl, rfl⟩, ?_⟩) | (refine retD_mark2 ?_; intro w H; refine ⟨_, ⟨_, _, rfl, rfl, rfl⟩, ?_⟩)
    exact ⟨by first | rfl | exact congrArg Value.bool (by decide), Holds.base_below (L := []) (Holds.to (by assumption))⟩
  · refine W.skip ?_
    refine hK3 _ _ _ ?_
    refine W.seq (fun K6 hK6 => ?_)
    refine W.region ?_
    refine O.ex (Ex.move rfl) rfl ?_
    refine O.callF Tryd.call9 rfl rfl (CT.mono (mnewI_ct hx (Holds.to (by assumption)) hlr) ?_)
    rintro _ w hh
    rcases hh with ⟨hr, q, rfl, H⟩ | ⟨hr, rfl, H⟩
    · refine O.ex (Ex.move rfl) rfl ?_
      refine O.ex (Ex.extract rfl rfl) rfl ?_
      refine O.ex (Ex.extract rfl rfl) rfl ?_
      refine O.ex (Ex.assign rfl) rfl ?_
      refine O.ex (Ex.assign rfl) rfl ?_
      refine O.nil ?_
      refine hK6 _ _ _ ?_
      refine W.seq (fun K7 hK7 => ?_)
      refine W.seq (fun K8 hK8 => ?_)
      refine W.region ?_
      refine O.ex (Ex.move rfl) rfl ?_
      refine O.callF Tryd.call8 rfl rfl (CT.mono (may_ct hx (Holds.to (by assumption)) hlr) ?_)
      rintro _ w ⟨rfl, H⟩
      refine O.ex (by first | exact Ex.notD rfl | exact Ex.not rfl) rfl ?_
      refine O.nil ?_
      refine hK8 _ _ _ ?_
      refine W.known_f rfl (by first | rfl | exact decide_eq_false (fun h => h hr) | exact decide_eq_true hr | exact decide_eq_false (fun h => h rfl) | decide) ?_
      refine W.skip ?_
      refine hK7 _ _ _ ?_
      refine W.seq (fun K9 hK9 => ?_)
      refine W.seq (fun K10 hK10 => ?_)
      refine W.region ?_
      refine O.ex (Ex.move rfl) rfl ?_
      refine O.ex (Ex.nilEq Tryd.runUnderlying25 rfl rfl) rfl ?_
      refine O.ex (Ex.move rfl) rfl ?_
      refine O.known (t := 35) (c := false) rfl (by first | rfl | exact decide_eq_false (fun h => h hr) | exact decide_eq_true hr | exact decide_eq_false (fun h => h rfl) | decide) ?_
      refine O.guard_t rfl rfl ?_
      refine O.ex (Ex.move rfl) rfl ?_
      refine O.guard_t rfl rfl ?_
      refine O.ex (Ex.neqI rfl rfl) rfl ?_
      refine O.ex (Ex.pick_f rfl rfl) rfl ?_
      refine O.nil ?_
      refine hK10 _ _ _ ?_
      refine W.known_f rfl (by first | rfl | exact decide_eq_false (fun h => h hr) | exact decide_eq_true hr | exact decide_eq_false (fun h => h rfl) | decide) ?_
      refine W.skip ?_
      refine hK9 _ _ _ ?_
      refine W.seq (fun K11 hK11 => ?_)
      refine W.region ?_
      obtain ⟨hr, hpos⟩ := hr
      have h24 := hr.1
      refine O.ex (Ex.move rfl) rfl ?_
      refine O.callF Tryd.call10 rfl rfl (CT.mono (rqNew_ct h24 hx (Holds.to (by assumption))) ?_)
      rintro _ w ⟨r, rfl, H⟩
      refine O.ex (Ex.assign rfl) rfl ?_
      refine O.nil ?_
      refine hK11 _ _ _ ?_
      refine W.seq (fun K12 hK12 => ?_)
      refine W.seq (fun K13 hK13 => ?_)
      refine W.region ?_
      refine O.ex (Ex.assign rfl) rfl ?_
      refine O.nil ?_
      refine hK13 _ _ _ ?_
      refine W.block ?_
      refine W.loop (σ := Nat × Nat) (fun z => [(0, rv), (1, sv), (5, .pointer (some ⟨q, 0, none⟩)), (7, .pointer (some ⟨r, 0, none⟩)), (8, .int .i64 (z.1 : Int))]) (fun z ds w => ds = [] ∧ SOk rk.length z.2 ∧ Holds w [base w0, Mk q rk z.2, Rq r rk z.2]) (fun z => sc.length - z.1) (0, 0) ⟨rfl, rfl, rfl, rfl, rfl, trivial⟩ ⟨rfl, SOk.zero _, Holds.to (by assumption)⟩ ?_
      clear H
      rintro ⟨i, s⟩ _ w ⟨rfl, hok, H⟩
      dsimp only at hok H ⊢
      refine W.seq (fun K14 hK14 => ?_)
      refine W.seq (fun K15 hK15 => ?_)
      refine W.region ?_
      refine O.ex (Ex.move rfl) rfl ?_
      refine O.ex (Ex.move rfl) rfl ?_
      refine O.ex (by first | exact Ex.lenN Tryd.runUnderlying46 rfl | exact Ex.lenIn Tryd.runUnderlying46 rfl | exact Ex.lenL Tryd.runUnderlying46 rfl | exact Ex.len rfl Tryd.runUnderlying46 rfl) rfl ?_
      refine O.ex (Ex.lss rfl rfl) rfl ?_
      refine O.ex (Ex.move rfl) rfl ?_
      first | refine O.split_p (t := 45) rfl (fun hlt => ?_) (fun hge => ?_) | refine O.split (t := 45) rfl (fun hlt => ?_) (fun hge => ?_)
      · refine O.guard_t rfl rfl ?_
        refine O.ex (Ex.move rfl) rfl ?_
        refine O.guard_t rfl rfl ?_
        refine O.ex (Ex.lss rfl rfl) rfl ?_
        refine O.ex (Ex.pick_t rfl rfl) rfl ?_
        refine O.nil ?_
        refine hK15 _ _ _ ?_
        first | refine W.cond_p rfl (fun h150 => ?_) (fun h150' => ?_) | refine W.cond_b rfl (fun h150 => ?_) (fun h150' => ?_)
        · refine W.skip ?_
          refine hK14 _ _ _ ?_
          refine W.seq (fun K16 hK16 => ?_)
          refine W.block ?_
          refine W.seq (fun K17 hK17 => ?_)
          refine W.seq (fun K18 hK18 => ?_)
          refine W.region ?_
          have hi0 : (0 : Int) ≤ (i : Int) := by omega
          have hi1 : (i : Int) < (sc.length : Int) := hlt
          have hi2 : ((i : Nat) : Int).toNat < sc.length := by omega
          refine O.ex (Ex.move rfl) rfl ?_
          refine O.ex (Ex.move rfl) rfl ?_
          refine O.ex (by first | exact Ex.idxIn Tryd.runUnderlying46 Tryd.sizeOf48 rfl rfl | exact Ex.idxN Tryd.runUnderlying46 Tryd.sizeOf48 rfl rfl | exact Ex.idxSN Tryd.runUnderlying46 Tryd.sizeOf48 rfl rfl | exact Ex.idx Tryd.runUnderlying46 Tryd.sizeOf48 rfl rfl (by omega) (by omega)) rfl ?_
          refine O.ex (by first | exact Ex.field0 fld48_0 rfl | exact Ex.field fld48_0 rfl | exact Ex.fieldS fld48_0 rfl | exact Ex.fieldIn fld48_0 rfl) rfl ?_
          refine O.ex (by first | exact Ex.loadInF Tryd.isAgg3 rfl (Holds.to (by assumption)) | exact Ex.loadP Tryd.isAgg3 rfl | exact Ex.loadIn1 Tryd.isAgg3 rfl (Holds.to (by assumption)) | exact Ex.loadR Tryd.isAgg3 rfl) rfl ?_
          refine O.nil ?_
          refine hK18 _ _ _ ?_
          refine W.block ?_
          refine W.seq (fun K19 hK19 => ?_)
          refine W.region ?_
          refine O.ex (Ex.eqlI rfl rfl) rfl ?_
          refine O.ex (Ex.assign rfl) rfl ?_
          refine O.nil ?_
          refine hK19 _ _ _ ?_
          first | refine W.cond_p rfl (fun hk0 => ?_) (fun hk0' => ?_) | refine W.cond_b rfl (fun hk0 => ?_) (fun hk0' => ?_)
          · refine W.seq (fun K20 hK20 => ?_)
            refine W.drawTo (base w0 :: []) (.take 0 (.take 1 (.take 2 (.take 3 (.take 4 (.take 5 (.take 7 (.take 8 (.take 9 (.take 10 (.take 11 (.take 12 (.one 6 (.one 13 (.take 14 .nil))))))))))))))) (mixed) (fun _ _ _ _ h => h) (by assumption) PP.auto (by decide +kernel) (fun w H => ?_)
            refine OQ.ex rfl (fun w H => (Ex.move rfl)) rfl ?_
            refine OQ.ex rfl (fun w H => (Ex.move rfl)) rfl ?_
            refine OQ.ex rfl (fun w H => (Ex.move rfl)) rfl ?_
            refine OQ.ex rfl (fun w H => (by first | exact Ex.idxIn Tryd.runUnderlying46 Tryd.sizeOf48 rfl rfl | exact Ex.idxN Tryd.runUnderlying46 Tryd.sizeOf48 rfl rfl | exact Ex.idxSN Tryd.runUnderlying46 Tryd.sizeOf48 rfl rfl | exact Ex.idx Tryd.runUnderlying46 Tryd.sizeOf48 rfl rfl (by omega) (by omega))) rfl ?_
            refine OQ.ex rfl (fun w H => (by first | exact Ex.field0 fld48_1 rfl | exact Ex.field fld48_1 rfl | exact Ex.fieldS fld48_1 rfl | exact Ex.fieldIn fld48_1 rfl)) rfl ?_
            refine OQ.ex rfl (fun w H => (by first | exact Ex.loadInF Tryd.isAgg3 rfl (Holds.to (by assumption)) | exact Ex.loadP Tryd.isAgg3 rfl | exact Ex.loadIn1 Tryd.isAgg3 rfl (Holds.to (by assumption)) | exact Ex.loadR Tryd.isAgg3 rfl)) rfl ?_
            refine OQ.ex rfl (fun w H => (Ex.move rfl)) rfl ?_
            refine OQ.ex rfl (fun w H => (Ex.move rfl)) rfl ?_
            refine OQ.ex rfl (fun w H => (Ex.move rfl)) rfl ?_
            refine OQ.ex rfl (fun w H => (by first | exact Ex.idxIn Tryd.runUnderlying46 Tryd.sizeOf48 rfl rfl | exact Ex.idxN Tryd.runUnderlying46 Tryd.sizeOf48 rfl rfl | exact Ex.idxSN Tryd.runUnderlying46 Tryd.sizeOf48 rfl rfl | exact Ex.idx Tryd.runUnderlying46 Tryd.sizeOf48 rfl rfl (by omega) (by omega))) rfl ?_
            refine OQ.ex rfl (fun w H => (by first | exact Ex.field0 fld48_1 rfl | exact Ex.field fld48_1 rfl | exact Ex.fieldS fld48_1 rfl | exact Ex.fieldIn fld48_1 rfl)) rfl ?_
            refine OQ.ex rfl (fun w H => (by first | exact Ex.loadInF Tryd.isAgg3 rfl (Holds.to (by assumption)) | exact Ex.loadP Tryd.isAgg3 rfl | exact Ex.loadIn1 Tryd.isAgg3 rfl (Holds.to (by assumption)) | exact Ex.loadR Tryd.isAgg3 rfl)) rfl ?_
            refine OQ.step rfl ?_
            refine O.callF Tryd.call11 rfl rfl (CT.mono (qPut_ct (rk := rk) (s := s) hr hok.1 (Holds.to (by assumption))) ?_)
            rintro _ w ⟨rfl, H⟩
            refine O.thenNil ⟨(by first | exact Holds.to (by assumption) | assumption), ?_⟩
            refine OQ.step rfl ?_
            refine O.callF Tryd.call12 rfl rfl (CT.mono (rqPut_ct (rk := rk) (s := s) hr hok.1 (Holds.to (by assumption))) ?_)
            rintro _ w ⟨rfl, H⟩
            obtain ⟨s2, hok2, hsd⟩ : ∃ s2, SOk rk.length s2 ∧ pset rk s (sc.getD ((i : Nat) : Int).toNat default).f_V = s2 := ⟨_, pset_ok hr hok _, rfl⟩
            rw [hsd] at H
            refine O.thenNil ⟨(by first | exact Holds.to (by assumption) | assumption), ?_⟩
            refine OQ.ex rfl (fun w H => (Ex.neqI rfl rfl)) rfl ?_
            refine OQ.done ?_
            refine hK20 _ _ _ ?_
            refine W.known_f rfl (by first | rfl | exact decide_eq_false (fun h => h hr) | exact decide_eq_true hr | exact decide_eq_false (fun h => h rfl) | decide) ?_
            refine W.skip ?_
            refine hK17 _ _ _ ?_
            refine W.seq (fun K21 hK21 => ?_)
            refine W.region ?_
            first
            | (obtain rfl : v = rk.length := by omega
               have hfull := WR.full hr hwl hws
               have hok2 := full_ok hr
               have H := rq_open.2 ⟨rv1, wv1, Ws, hfull, rqO_open.2 (Holds.to (by assumption))⟩
               obtain ⟨s2, hsd⟩ : ∃ s2, belN (rk.length : Int) = s2 := ⟨_, rfl⟩
               rw [hsd] at H hok2)
            | skip
            refine O.ex (Ex.move rfl) rfl ?_
            refine O.ex (Ex.move rfl) rfl ?_
            refine O.callF Tryd.call25 rfl rfl (CT.mono (alike18_ct (rk := rk) (s := s2) (L := []) hT hr hok2 (Holds.to (by assumption))) ?_)
            rintro _ w ⟨rfl, H⟩
            refine O.ex (by first | exact Ex.notD rfl | exact Ex.not rfl) rfl ?_
            refine O.nil ?_
            refine hK21 _ _ _ ?_
            refine W.known_f rfl (by first | rfl | exact decide_eq_false (fun h => h hr) | exact decide_eq_true hr | exact decide_eq_false (fun h => h rfl) | decide) ?_
            refine W.skip ?_
            refine hK16 _ _ _ ?_
            refine W.region ?_
            refine O.ex (Ex.move rfl) rfl ?_
            refine O.ex (by first | exact Ex.addI rfl rfl | exact Ex.add rfl rfl rfl) rfl ?_
            refine O.ex (Ex.assign rfl) rfl ?_
            refine O.nil ?_
            exact ⟨(i + 1, s2), ⟨rfl, rfl, rfl, rfl, rfl, trivial⟩, ⟨rfl, hok2, Holds.to (by assumption)⟩, by dsimp only; omega⟩
          · refine W.seq (fun K22 hK22 => ?_)
            refine W.region ?_
            refine O.ex (Ex.eqlI rfl rfl) rfl ?_
            refine O.ex (Ex.assign rfl) rfl ?_
            refine O.nil ?_
            refine hK22 _ _ _ ?_
            first | refine W.cond_p rfl (fun hk1 => ?_) (fun hk1' => ?_) | refine W.cond_b rfl (fun hk1 => ?_) (fun hk1' => ?_)
            · refine W.seq (fun K23 hK23 => ?_)
              refine W.region ?_
              refine O.ex (Ex.move rfl) rfl ?_
              refine O.callF Tryd.call15 rfl rfl (CT.mono (qTake_ct (rk := rk) (s := s) hT hr hok (Holds.to (by assumption))) ?_)
              rintro _ w ⟨rfl, H⟩
              refine O.ex (Ex.move rfl) rfl ?_
              refine O.ex (Ex.extract rfl rfl) rfl ?_
              refine O.ex (Ex.extract rfl rfl) rfl ?_
              refine O.ex (Ex.assign rfl) rfl ?_
              refine O.ex (Ex.assign rfl) rfl ?_
              refine O.nil ?_
              refine hK23 _ _ _ ?_
              refine W.seq (fun K24 hK24 => ?_)
              refine W.region ?_
              refine O.ex (Ex.move rfl) rfl ?_
              refine O.callF Tryd.call23 rfl rfl (CT.mono (rqTake_ct (rk := rk) (s := s) hr hok (Holds.to (by assumption))) ?_)
              rintro _ w ⟨rfl, H⟩
              obtain ⟨s2, hok2, hsd⟩ : ∃ s2, SOk rk.length s2 ∧ tks rk s = s2 := ⟨_, tks_ok hok, rfl⟩
              rw [hsd] at H
              refine O.ex (Ex.move rfl) rfl ?_
              refine O.ex (Ex.extract rfl rfl) rfl ?_
              refine O.ex (Ex.extract rfl rfl) rfl ?_
              refine O.ex (Ex.assign rfl) rfl ?_
              refine O.ex (Ex.assign rfl) rfl ?_
              refine O.nil ?_
              refine hK24 _ _ _ ?_
              refine W.seq (fun K25 hK25 => ?_)
              refine W.region ?_
              refine O.ex (Ex.move rfl) rfl ?_
              refine O.ex (Ex.move rfl) rfl ?_
              refine O.ex (Ex.neqI rfl rfl) rfl ?_
              refine O.ex (Ex.move rfl) rfl ?_
              refine O.known (t := 102) (c := false) rfl (by first | rfl | exact decide_eq_false (fun h => h hr) | exact decide_eq_true hr | exact decide_eq_false (fun h => h rfl) | decide) ?_
              refine O.guard_t rfl rfl ?_
              refine O.ex (Ex.move rfl) rfl ?_
              refine O.guard_t rfl rfl ?_
              refine O.ex (Ex.move rfl) rfl ?_
              refine O.guard_t rfl rfl ?_
              refine O.ex (Ex.neqB Tryd.runUnderlying4 rfl rfl) rfl ?_
              refine O.ex (Ex.pick_f rfl rfl) rfl ?_
              refine O.nil ?_
              refine hK25 _ _ _ ?_
              refine W.known_f rfl (by first | rfl | exact decide_eq_false (fun h => h hr) | exact decide_eq_true hr | exact decide_eq_false (fun h => h rfl) | decide) ?_
              refine W.skip ?_
              refine hK17 _ _ _ ?_
              refine W.seq (fun K26 hK26 => ?_)
              refine W.region ?_
              first
              | (obtain rfl : v = rk.length := by omega
                 have hfull := WR.full hr hwl hws
                 have hok2 := full_ok hr
                 have H := rq_open.2 ⟨rv1, wv1, Ws, hfull, rqO_open.2 (Holds.to (by assumption))⟩
                 obtain ⟨s2, hsd⟩ : ∃ s2, belN (rk.length : Int) = s2 := ⟨_, rfl⟩
                 rw [hsd] at H hok2)
              | skip
              refine O.ex (Ex.move rfl) rfl ?_
              refine O.ex (Ex.move rfl) rfl ?_
              refine O.callF Tryd.call25 rfl rfl (CT.mono (alike18_ct (rk := rk) (s := s2) (L := []) hT hr hok2 (Holds.to (by assumption))) ?_)
              rintro _ w ⟨rfl, H⟩
              refine O.ex (by first | exact Ex.notD rfl | exact Ex.not rfl) rfl ?_
              refine O.nil ?_
              refine hK26 _ _ _ ?_
              refine W.known_f rfl (by first | rfl | exact decide_eq_false (fun h => h hr) | exact decide_eq_true hr | exact decide_eq_false (fun h => h rfl) | decide) ?_
              refine W.skip ?_
              refine hK16 _ _ _ ?_
              refine W.region ?_
              refine O.ex (Ex.move rfl) rfl ?_
              refine O.ex (by first | exact Ex.addI rfl rfl | exact Ex.add rfl rfl rfl) rfl ?_
              refine O.ex (Ex.assign rfl) rfl ?_
              refine O.nil ?_
              exact ⟨(i + 1, s2), ⟨rfl, rfl, rfl, rfl, rfl, trivial⟩, ⟨rfl, hok2, Holds.to (by assumption)⟩, by dsimp only; omega⟩
            · refine W.seq (fun K27 hK27 => ?_)
              refine W.region ?_
              refine O.ex (Ex.move rfl) rfl ?_
              refine O.callF Tryd.call24 rfl rfl (CT.mono (qFill_ct (rk := rk) (s := s) (Holds.to (by assumption))) ?_)
              rintro _ w ⟨-, H⟩
              refine O.nil ?_
              refine hK27 _ _ _ ?_
              refine W.seq (fun K28 hK28 => ?_)
              refine W.region ?_
              refine O.ex (Ex.assign rfl) rfl ?_
              refine O.nil ?_
              refine hK28 _ _ _ ?_
              refine W.block ?_
              obtain ⟨rv1, wv1, Wt, hW, H⟩ := rq_open.1 (Holds.to (M := Rq r rk s :: base w0 :: Mk q rk (belN (rk.length : Int)) :: []) (by assumption))
              have hwl := hW.len
              refine W.loop (σ := Nat × List Bool) (fun z => [(0, rv), (1, sv), (5, .pointer (some ⟨q, 0, none⟩)), (7, .pointer (some ⟨r, 0, none⟩)), (8, .int .i64 (i : Int)), (13, .int .i64 (z.1 : Int))]) (fun z ds w => ds = [] ∧ z.1 ≤ rk.length ∧ z.2.length = rk.length ∧ (∀ j, j < z.1 → z.2.getD j default = true) ∧ Holds w [RqO r rv1 wv1 rk z.2, base w0, Mk q rk (belN (rk.length : Int))]) (fun z => rk.length - z.1) (0, Wt) ⟨rfl, rfl, rfl, rfl, rfl, rfl, trivial⟩ ⟨rfl, by dsimp only; omega, hwl, fun j hj => by dsimp only at hj; omega, Holds.to (by assumption)⟩ ?_
              clear H hW hwl
              rintro ⟨v, Ws⟩ _ w ⟨rfl, hv, hwl, hws, H⟩
              dsimp only at hv hwl hws H
              dsimp only
              have H := rqO_open.1 H
              refine W.seq (fun K29 hK29 => ?_)
              refine W.seq (fun K30 hK30 => ?_)
              refine W.region ?_
              refine O.ex (Ex.move rfl) rfl ?_
              refine O.ex (Ex.move rfl) rfl ?_
              refine O.ex (by first | exact Ex.lenR Tryd.runUnderlying22 rfl | exact Ex.lenIn Tryd.runUnderlying22 rfl | exact Ex.lenL Tryd.runUnderlying22 rfl | exact Ex.len rfl Tryd.runUnderlying22 rfl) rfl ?_
              refine O.ex (Ex.lss rfl rfl) rfl ?_
              refine O.nil ?_
              refine hK30 _ _ _ ?_
              first | refine W.cond_p rfl (fun hlt2 => ?_) (fun hge2 => ?_) | refine W.cond_b rfl (fun hlt2 => ?_) (fun hge2 => ?_)
              · refine W.skip ?_
                refine hK29 _ _ _ ?_
                refine W.seq (fun K31 hK31 => ?_)
                refine W.block ?_
                refine W.region ?_
                have hv0 : (0 : Int) ≤ (v : Int) := by omega
                have hv1 : (v : Int) < (Ws.length : Int) := by omega
                refine O.ex (Ex.move rfl) rfl ?_
                refine O.ex (by first | exact Ex.nilPtr rfl | exact Ex.nilFunc rfl | exact Ex.nilYield rfl) rfl ?_
                refine O.ex (by first | exact Ex.field0 fld51_1 rfl | exact Ex.field fld51_1 rfl | exact Ex.fieldS fld51_1 rfl | exact Ex.fieldIn fld51_1 rfl) rfl ?_
                refine O.ex (by first | exact Ex.loadInF Tryd.isAgg49 rfl (Holds.to (by assumption)) | exact Ex.loadP Tryd.isAgg49 rfl | exact Ex.loadIn1 Tryd.isAgg49 rfl (Holds.to (by assumption)) | exact Ex.loadR Tryd.isAgg49 rfl) rfl ?_
                refine O.ex (Ex.move rfl) rfl ?_
                refine O.ex (by first | exact Ex.idxR Tryd.runUnderlying49 Tryd.sizeOf4 rfl rfl | exact Ex.idxIn Tryd.runUnderlying49 Tryd.sizeOf4 rfl rfl | exact Ex.idxS Tryd.runUnderlying49 Tryd.sizeOf4 rfl rfl | exact Ex.idx Tryd.runUnderlying49 Tryd.sizeOf4 rfl rfl (by omega) (by omega)) rfl ?_
                first | refine O.storeP Tryd.sizeOf4 rfl rfl (fun w H => ?_) | refine O.storeR Tryd.sizeOf4 rfl rfl (fun w H => ?_)
                refine O.nil ?_
                refine hK31 _ _ _ ?_
                refine W.region ?_
                refine O.ex (Ex.move rfl) rfl ?_
                refine O.ex (by first | exact Ex.addI rfl rfl | exact Ex.add rfl rfl rfl) rfl ?_
                refine O.ex (Ex.assign rfl) rfl ?_
                refine O.nil ?_
                refine ⟨(v + 1, Ws.set v true), ⟨rfl, rfl, rfl, rfl, rfl, rfl, trivial⟩, ⟨rfl, by dsimp only; omega, by dsimp only; rw [List.length_set]; exact hwl, fun j hj => ?_, rqO_open.2 (Holds.to (by assumption))⟩, by dsimp only; omega⟩
                dsimp only at hj ⊢
                rw [gsB _ _ _ _ (by omega)]
                split
                · rfl
                · exact hws j (by omega)
              · refine W.exit ?_
                refine hK17 _ _ _ ?_
                refine W.seq (fun K32 hK32 => ?_)
                refine W.region ?_
                first
                | (obtain rfl : v = rk.length := by omega
                   have hfull := WR.full hr hwl hws
                   have hok2 := full_ok hr
                   have H := rq_open.2 ⟨rv1, wv1, Ws, hfull, rqO_open.2 (Holds.to (by assumption))⟩
                   obtain ⟨s2, hsd⟩ : ∃ s2, belN (rk.length : Int) = s2 := ⟨_, rfl⟩
                   rw [hsd] at H hok2)
                | skip
                refine O.ex (Ex.move rfl) rfl ?_
                refine O.ex (Ex.move rfl) rfl ?_
                refine O.callF Tryd.call25 rfl rfl (CT.mono (alike18_ct (rk := rk) (s := s2) (L := []) hT hr hok2 (Holds.to (by assumption))) ?_)
                rintro _ w ⟨rfl, H⟩
                refine O.ex (by first | exact Ex.notD rfl | exact Ex.not rfl) rfl ?_
                refine O.nil ?_
                refine hK32 _ _ _ ?_
                refine W.known_f rfl (by first | rfl | exact decide_eq_false (fun h => h hr) | exact decide_eq_true hr | exact decide_eq_false (fun h => h rfl) | decide) ?_
                refine W.skip ?_
                refine hK16 _ _ _ ?_
                refine W.region ?_
                refine O.ex (Ex.move rfl) rfl ?_
                refine O.ex (by first | exact Ex.addI rfl rfl | exact Ex.add rfl rfl rfl) rfl ?_
                refine O.ex (Ex.assign rfl) rfl ?_
                refine O.nil ?_
                exact ⟨(i + 1, s2), ⟨rfl, rfl, rfl, rfl, rfl, trivial⟩, ⟨rfl, hok2, Holds.to (by assumption)⟩, by dsimp only; omega⟩
        · refine W.exit ?_
          refine hK12 _ _ _ ?_
          refine W.seq (fun K33 hK33 => ?_)
          refine W.region ?_
          refine O.ex (Ex.move rfl) rfl ?_
          refine O.ex (Ex.move rfl) rfl ?_
          refine O.callF Tryd.call25 rfl rfl (CT.mono (alike18_ct (rk := rk) (s := s) (L := []) hT hr hok (Holds.to (by assumption))) ?_)
          rintro _ w ⟨rfl, H⟩
          refine O.ex (Ex.assign rfl) rfl ?_
          refine O.nil ?_
          refine hK33 _ _ _ ?_
          refine W.ret ?_
          try dsimp only [thenQ, blockQ, retQ]
          first | refine ⟨_, ⟨_, _, rfl, rfl, rfl⟩, ?_⟩ | (refine retD_mark ?_; intro w H; refine ⟨_, ⟨_, _, rfl, rfl, rfl⟩, ?_⟩) | (refine retD_mark2 ?_; intro w H; refine ⟨_, ⟨_, _, rfl, rfl, rfl⟩, ?_⟩)
          exact ⟨by first | rfl | exact congrArg Value.bool (by decide), Holds.base_below (L := []) (Holds.to (by assumption))⟩
      · refine O.guard_f rfl rfl rfl rfl ?_
        refine O.guard_f rfl rfl rfl rfl ?_
        refine O.ex (Ex.pick_f rfl rfl) rfl ?_
        refine O.nil ?_
        refine hK15 _ _ _ ?_
        refine W.cond_f rfl ?_
        refine W.exit ?_
        refine hK12 _ _ _ ?_
        refine W.seq (fun K34 hK34 => ?_)
        refine W.region ?_
        refine O.ex (Ex.move rfl) rfl ?_
        refine O.ex (Ex.move rfl) rfl ?_
        refine O.callF Tryd.call25 rfl rfl (CT.mono (alike18_ct (rk := rk) (s := s) (L := []) hT hr hok (Holds.to (by assumption))) ?_)
        rintro _ w ⟨rfl, H⟩
        refine O.ex (Ex.assign rfl) rfl ?_
        refine O.nil ?_
        refine hK34 _ _ _ ?_
        refine W.ret ?_
        try dsimp only [thenQ, blockQ, retQ]
        first | refine ⟨_, ⟨_, _, rfl, rfl, rfl⟩, ?_⟩ | (refine retD_mark ?_; intro w H; refine ⟨_, ⟨_, _, rfl, rfl, rfl⟩, ?_⟩) | (refine retD_mark2 ?_; intro w H; refine ⟨_, ⟨_, _, rfl, rfl, rfl⟩, ?_⟩)
        exact ⟨by first | rfl | exact congrArg Value.bool (by decide), Holds.base_below (L := []) (Holds.to (by assumption))⟩
    · refine O.ex (Ex.move rfl) rfl ?_
      refine O.ex (Ex.extract rfl rfl) rfl ?_
      refine O.ex (Ex.extract rfl rfl) rfl ?_
      refine O.ex (Ex.assign rfl) rfl ?_
      refine O.ex (Ex.assign rfl) rfl ?_
      refine O.nil ?_
      refine hK6 _ _ _ ?_
      refine W.seq (fun K35 hK35 => ?_)
      refine W.seq (fun K36 hK36 => ?_)
      refine W.region ?_
      refine O.ex (Ex.move rfl) rfl ?_
      refine O.callF Tryd.call8 rfl rfl (CT.mono (may_ct hx (Holds.to (by assumption)) hlr) ?_)
      rintro _ w ⟨rfl, H⟩
      refine O.ex (by first | exact Ex.notD rfl | exact Ex.not rfl) rfl ?_
      refine O.nil ?_
      refine hK36 _ _ _ ?_
      refine W.known_t rfl (by first | rfl | exact decide_eq_false (fun h => h hr) | exact decide_eq_true hr | exact decide_eq_false (fun h => h rfl) | decide) ?_
      refine W.seq (fun K37 hK37 => ?_)
      refine W.region ?_
      refine O.ex (Ex.move rfl) rfl ?_
      refine O.ex (Ex.nilEq Tryd.runUnderlying25 rfl rfl) rfl ?_
      refine O.ex (Ex.move rfl) rfl ?_
      refine O.known (t := 29) (c := true) rfl (by first | rfl | exact decide_eq_false (fun h => h hr) | exact decide_eq_true hr | exact decide_eq_false (fun h => h rfl) | decide) ?_
      refine O.guard_t rfl rfl ?_
      refine O.ex (Ex.move rfl) rfl ?_
      refine O.guard_t rfl rfl ?_
      refine O.ex (Ex.eqlI rfl rfl) rfl ?_
      refine O.ex (Ex.pick_t rfl rfl) rfl ?_
      refine O.ex (Ex.assign rfl) rfl ?_
      refine O.nil ?_
      refine hK37 _ _ _ ?_
      refine W.ret ?_
      try dsimp only [thenQ, blockQ, retQ]
      first | refine ⟨_, ⟨_, _, rfl, rfl, rfl⟩, ?_⟩ | (refine retD_mark ?_; intro w H; refine ⟨_, ⟨_, _, rfl, rfl, rfl⟩, ?_⟩) | (refine retD_mark2 ?_; intro w H; refine ⟨_, ⟨_, _, rfl, rfl, rfl⟩, ?_⟩)
      exact ⟨by first | rfl | exact congrArg Value.bool (by decide), Holds.base_below (L := []) (Holds.to (by assumption))⟩
theorem markPlays_row {w0 : World} {rv sv : Value} {rk : List Int} {sc : List ActQ} (hT : TabAt w0) (hx : SlIn w0 1 (fun s : Int => [.int .i64 s]) rv rk) (hg : ∀ x ∈ rk, (Lit.int .i64 x).wf = true) (hlr : rk.length ≤ maxLen) (hs : SlIn w0 2 ActQ.enc sv sc) (ht : ∀ x ∈ sc, x.ok) (hl : sc.length ≤ maxLen) :
    CT Tryd.prog 5 [rv, sv] w0 fun u w' => u = .bool true ∧ RowKit.Below w0.heap.size w0 w' :=
  markPlays_ct hT hx (by unfold maxLen at hlr; omega) hs (by unfold maxLen at hl; omega)
end Go.Proofs.YtgbhccpjpimgfaaDoor
