import Derived.Test.YtakmbbgnnbpkoaaRingB
import Derived.Test.YtakmbbgnnbpkoaaGraph7
import Derived.Test.YtakmbbgnnbpkoaaGraphLaw2
import Derived.Test.YtakmbbgnnbpkoaaLaw08c
--ARR
--DEEP
namespace Go.Proofs.Ytakmbbgnnbpkoaa
open Go.Rr Go Gr
set_option linter.unusedVariables false
structure OpM where
  f_Kind : Int
  f_A : Int
  f_B : Int
  f_C : Int
  f_W : Int
  deriving Inhabited
def OpM.enc (x : OpM) : List Value := [.int .i64 x.f_Kind, .int .i64 x.f_A, .int .i64 x.f_B, .int .i64 x.f_C, .int .u64 x.f_W]
def OpM.ok (x : OpM) : Prop := (Lit.int .i64 x.f_Kind).wf = true ∧ (Lit.int .i64 x.f_A).wf = true ∧ (Lit.int .i64 x.f_B).wf = true ∧ (Lit.int .i64 x.f_C).wf = true ∧ (Lit.int .u64 x.f_W).wf = true
set_option maxRecDepth 100000 in
theorem OpM.elem : ElemOk Try.prog 91 OpM.enc OpM.ok := fun H enc w base spare held fuel cs x h => by
  obtain ⟨ys, n, _, _, hl, hys, hf⟩ := DataW.trod_struct Try.underlying91 h
  have hc : Try.prog.cellsOf 91 = 5 := by kernel_rfl
  rw [hc] at hl
  have c3 : Try.prog.cellsOf 3 = 1 := by kernel_rfl
  have c89 : Try.prog.cellsOf 89 = 1 := by kernel_rfl
  match cs, hl with
  | [a0, a1, a2, a3, a4], _ =>
    have hy : ys.length = 5 := hys
    have h_0 : DataW.trod enc Try.prog w base spare held n 3 (([a0, a1, a2, a3, a4].drop 0).take (Try.prog.cellsOf 3)) = ys[0]? := hf 0 _ rfl
    rw [List.getElem?_eq_getElem (by omega), c3] at h_0
    simp only [List.drop_zero, List.take_succ_cons, List.take_zero] at h_0
    have h_1 : DataW.trod enc Try.prog w base spare held n 3 (([a0, a1, a2, a3, a4].drop 1).take (Try.prog.cellsOf 3)) = ys[1]? := hf 1 _ rfl
    rw [List.getElem?_eq_getElem (by omega), c3] at h_1
    simp only [List.drop_succ_cons, List.drop_zero, List.take_succ_cons, List.take_zero] at h_1
    have h_2 : DataW.trod enc Try.prog w base spare held n 3 (([a0, a1, a2, a3, a4].drop 2).take (Try.prog.cellsOf 3)) = ys[2]? := hf 2 _ rfl
    rw [List.getElem?_eq_getElem (by omega), c3] at h_2
    simp only [List.drop_succ_cons, List.drop_zero, List.take_succ_cons, List.take_zero] at h_2
    have h_3 : DataW.trod enc Try.prog w base spare held n 3 (([a0, a1, a2, a3, a4].drop 3).take (Try.prog.cellsOf 3)) = ys[3]? := hf 3 _ rfl
    rw [List.getElem?_eq_getElem (by omega), c3] at h_3
    simp only [List.drop_succ_cons, List.drop_zero, List.take_succ_cons, List.take_zero] at h_3
    have h_4 : DataW.trod enc Try.prog w base spare held n 89 (([a0, a1, a2, a3, a4].drop 4).take (Try.prog.cellsOf 89)) = ys[4]? := hf 4 _ rfl
    rw [List.getElem?_eq_getElem (by omega), c89] at h_4
    simp only [List.drop_succ_cons, List.drop_zero, List.take_succ_cons, List.take_zero] at h_4
    obtain ⟨m0, e0, _, w0⟩ := DataW.trod_int Try.underlying3 h_0
    simp only [List.cons.injEq, and_true] at e0
    subst e0
    obtain ⟨m1, e1, _, w1⟩ := DataW.trod_int Try.underlying3 h_1
    simp only [List.cons.injEq, and_true] at e1
    subst e1
    obtain ⟨m2, e2, _, w2⟩ := DataW.trod_int Try.underlying3 h_2
    simp only [List.cons.injEq, and_true] at e2
    subst e2
    obtain ⟨m3, e3, _, w3⟩ := DataW.trod_int Try.underlying3 h_3
    simp only [List.cons.injEq, and_true] at e3
    subst e3
    obtain ⟨m4, e4, _, w4⟩ := DataW.trod_int Try.underlying89 h_4
    simp only [List.cons.injEq, and_true] at e4
    subst e4
    exact ⟨⟨m0, m1, m2, m3, m4⟩, rfl, w0, w1, w2, w3, w4⟩
def OpM.oW (op : OpM) : Int := if 4611686018427387904 < op.f_W then 4611686018427387905 else op.f_W
def OpM.ar (op : OpM) : Arc := ⟨op.f_B, op.f_C, op.oW, false⟩
abbrev OpM.val (op : OpM) : Value := .agg op.enc.toArray
abbrev OpM.cs (op : OpM) : Array Value := #[.int .i64 op.f_Kind, .int .i64 op.f_A, .int .i64 op.f_B, .int .i64 op.f_C, .int .u64 op.f_W]
abbrev acs (a : Arc) : Array Value := #[.int .i64 a.t, .int .i64 a.h, .int .i64 a.w, .bool a.cl]
theorem uweight_ct {w : World} {op : OpM} {L : List HProp} (h0 : 0 ≤ op.f_W) (H : Holds w L) : CT Try.prog 130 [op.val] w fun u w' => u = .int .i64 op.oW ∧ Holds w' L := by
  refine CT.enter (N := 7) Try.func130 rfl rfl rfl rfl ?_
  refine W.seq (fun K0 hK0 => ?_)
  refine W.region ?_
  refine O.boxP rfl (fun b1 w H => ?_)
  have H : Holds w (pt b1 (.cells op.cs 91 (0, 0)) :: L) := H
  refine O.ex (Ex.assign rfl) rfl ?_
  refine O.nil ?_
  refine hK0 _ _ _ ?_
  refine W.seq (fun K1 hK1 => ?_)
  refine W.region ?_
  refine O.ex (by first | exact Ex.field0 fld91_4 rfl | exact Ex.field fld91_4 rfl | exact Ex.fieldS fld91_4 rfl) rfl ?_
  refine O.ex (by first | exact Ex.loadMh Try.isAgg89 rfl | exact Ex.loadP Try.isAgg89 rfl | exact Ex.loadM Try.isAgg89 rfl | exact Ex.loadIn1 Try.isAgg89 rfl (Holds.to (by assumption)) | exact Ex.loadVc Try.isAgg89 rfl | exact Ex.loadR Try.isAgg89 rfl | exact Ex.loadQ Try.isAgg89 rfl) rfl ?_
  refine O.ex (Ex.minI rfl rfl) rfl ?_
  refine O.ex (by first | exact Ex.convToI Try.runUnderlying89 Try.runUnderlying3 rfl | exact Ex.convW Try.runUnderlying89 Try.runUnderlying3 rfl) rfl ?_
  refine O.ex (Ex.assign rfl) rfl ?_
  refine O.nil ?_
  refine hK1 _ _ _ ?_
  refine W.ret ?_
  try dsimp only [thenQ, blockQ, retQ]
  first | refine ⟨_, ⟨_, _, rfl, rfl, rfl⟩, ?_⟩ | (refine retD_mark ?_; intro w H; refine ⟨_, ⟨_, _, rfl, rfl, rfl⟩, ?_⟩) | (refine retD_mark2 ?_; intro w H; refine ⟨_, ⟨_, _, rfl, rfl, rfl⟩, ?_⟩)
  exact ⟨congrArg (Value.int .i64) (by unfold OpM.oW; split <;> omega), Holds.to (by assumption)⟩
theorem refWeight24_ct {w : World} {op : OpM} {L : List HProp} (h0 : 0 ≤ op.f_W) (H : Holds w L) : CT Try.prog 132 [op.val] w fun u w' => u = .int .i64 op.oW ∧ Holds w' L := by
  refine CT.enter (N := 9) Try.func132 rfl rfl rfl rfl ?_
  refine W.seq (fun K0 hK0 => ?_)
  refine W.region ?_
  refine O.boxP rfl (fun b1 w H => ?_)
  have H : Holds w (pt b1 (.cells op.cs 91 (0, 0)) :: L) := H
  refine O.ex (Ex.assign rfl) rfl ?_
  refine O.nil ?_
  refine hK0 _ _ _ ?_
  refine W.seq (fun K1 hK1 => ?_)
  refine W.seq (fun K2 hK2 => ?_)
  refine W.region ?_
  refine O.ex (by first | exact Ex.field0 fld91_4 rfl | exact Ex.field fld91_4 rfl | exact Ex.fieldS fld91_4 rfl) rfl ?_
  refine O.ex (by first | exact Ex.loadMh Try.isAgg89 rfl | exact Ex.loadP Try.isAgg89 rfl | exact Ex.loadM Try.isAgg89 rfl | exact Ex.loadIn1 Try.isAgg89 rfl (Holds.to (by assumption)) | exact Ex.loadVc Try.isAgg89 rfl | exact Ex.loadR Try.isAgg89 rfl | exact Ex.loadQ Try.isAgg89 rfl) rfl ?_
  refine O.ex (Ex.gtr rfl rfl) rfl ?_
  refine O.nil ?_
  refine hK2 _ _ _ ?_
  first | refine W.cond_p rfl (fun hA => ?_) (fun hB => ?_) | refine W.cond_b rfl (fun hA => ?_) (fun hB => ?_)
  · refine W.seq (fun K3 hK3 => ?_)
    refine W.region ?_
    refine O.ex (Ex.assign rfl) rfl ?_
    refine O.nil ?_
    refine hK3 _ _ _ ?_
    refine W.ret ?_
    try dsimp only [thenQ, blockQ, retQ]
    first | refine ⟨_, ⟨_, _, rfl, rfl, rfl⟩, ?_⟩ | (refine retD_mark ?_; intro w H; refine ⟨_, ⟨_, _, rfl, rfl, rfl⟩, ?_⟩) | (refine retD_mark2 ?_; intro w H; refine ⟨_, ⟨_, _, rfl, rfl, rfl⟩, ?_⟩)
    exact ⟨congrArg (Value.int .i64) (by unfold OpM.oW; split <;> omega), Holds.to (by assumption)⟩
  · refine W.skip ?_
    refine hK1 _ _ _ ?_
    refine W.seq (fun K4 hK4 => ?_)
    refine W.region ?_
    refine O.ex (by first | exact Ex.field0 fld91_4 rfl | exact Ex.field fld91_4 rfl | exact Ex.fieldS fld91_4 rfl) rfl ?_
    refine O.ex (by first | exact Ex.loadMh Try.isAgg89 rfl | exact Ex.loadP Try.isAgg89 rfl | exact Ex.loadM Try.isAgg89 rfl | exact Ex.loadIn1 Try.isAgg89 rfl (Holds.to (by assumption)) | exact Ex.loadVc Try.isAgg89 rfl | exact Ex.loadR Try.isAgg89 rfl | exact Ex.loadQ Try.isAgg89 rfl) rfl ?_
    refine O.ex (by first | exact Ex.convToI Try.runUnderlying89 Try.runUnderlying3 rfl | exact Ex.convW Try.runUnderlying89 Try.runUnderlying3 rfl) rfl ?_
    refine O.ex (Ex.assign rfl) rfl ?_
    refine O.nil ?_
    refine hK4 _ _ _ ?_
    refine W.ret ?_
    try dsimp only [thenQ, blockQ, retQ]
    first | refine ⟨_, ⟨_, _, rfl, rfl, rfl⟩, ?_⟩ | (refine retD_mark ?_; intro w H; refine ⟨_, ⟨_, _, rfl, rfl, rfl⟩, ?_⟩) | (refine retD_mark2 ?_; intro w H; refine ⟨_, ⟨_, _, rfl, rfl, rfl⟩, ?_⟩)
    exact ⟨congrArg (Value.int .i64) (by unfold OpM.oW; split <;> omega), Holds.to (by assumption)⟩
theorem inserted_ct {w : World} {op : OpM} {L : List HProp} (h0 : 0 ≤ op.f_W) (H : Holds w L) : CT Try.prog 98 [op.val] w fun u w' => u = op.ar.val ∧ Holds w' L := by
  refine CT.enter (N := 10) Try.func98 rfl rfl rfl rfl ?_
  refine W.seq (fun K0 hK0 => ?_)
  refine W.region ?_
  refine O.boxP rfl (fun b1 w H => ?_)
  have H : Holds w (pt b1 (.cells op.cs 91 (0, 0)) :: L) := H
  refine O.allocP Try.zeroValue31 (fun b2 w H => ?_)
  refine O.nil ?_
  refine hK0 _ _ _ ?_
  refine W.seq (fun K1 hK1 => ?_)
  refine W.drawTo (pt b1 _ :: []) (.take 0 (.take 1 (.take 2 (.take 3 (.take 4 (.one 5 (.take 6 (.one 7 .nil)))))))) (mixed) (fun _ _ _ _ h => h) (by assumption) PP.auto (by decide +kernel) (fun w H => ?_)
  refine OQ.ex rfl (fun w H => (by first | exact Ex.field0 fld91_2 rfl | exact Ex.field fld91_2 rfl | exact Ex.fieldS fld91_2 rfl)) rfl ?_
  refine OQ.ex rfl (fun w H => (by first | exact Ex.loadMh Try.isAgg3 rfl | exact Ex.loadP Try.isAgg3 rfl | exact Ex.loadM Try.isAgg3 rfl | exact Ex.loadIn1 Try.isAgg3 rfl (Holds.to (by assumption)) | exact Ex.loadVc Try.isAgg3 rfl | exact Ex.loadR Try.isAgg3 rfl | exact Ex.loadQ Try.isAgg3 rfl)) rfl ?_
  refine OQ.ex rfl (fun w H => (by first | exact Ex.field0 fld91_3 rfl | exact Ex.field fld91_3 rfl | exact Ex.fieldS fld91_3 rfl)) rfl ?_
  refine OQ.ex rfl (fun w H => (by first | exact Ex.loadMh Try.isAgg3 rfl | exact Ex.loadP Try.isAgg3 rfl | exact Ex.loadM Try.isAgg3 rfl | exact Ex.loadIn1 Try.isAgg3 rfl (Holds.to (by assumption)) | exact Ex.loadVc Try.isAgg3 rfl | exact Ex.loadR Try.isAgg3 rfl | exact Ex.loadQ Try.isAgg3 rfl)) rfl ?_
  refine OQ.ex rfl (fun w H => (by first | exact Ex.loadAggP Try.isAgg91 Try.sizeOf91 rfl | exact Ex.loadAggN Try.isAgg91 Try.sizeOf91 rfl | exact Ex.loadIn Try.isAgg91 Try.sizeOf91 rfl (Holds.to (by assumption)))) rfl ?_
  refine OQ.step rfl ?_
  refine O.callF Try.call130 rfl rfl (CT.mono (uweight_ct h0 (Holds.to (by assumption))) ?_)
  rintro _ w ⟨rfl, H⟩
  refine O.thenNil ⟨(by first | exact Holds.to (by assumption) | assumption), ?_⟩
  refine OQ.ex rfl (fun w H => (Ex.build rfl (bld31_0_1_2 _ _ _ (by first | rfl | assumption) (by first | rfl | assumption) (by first | rfl | assumption)))) rfl ?_
  refine OQ.last rfl (by decide +kernel) ?_
  first | refine O.storeAggP Try.sizeOf31 rfl rfl rfl rfl (fun w H => ?_) | refine O.storeAggN Try.sizeOf31 rfl rfl rfl (fun w H => ?_) rfl
  refine O.nil ?_
  refine hK1 _ _ _ ?_
  refine W.ret ?_
  try dsimp only [thenQ, blockQ, retQ]
  first | refine ⟨_, ⟨_, _, _, rfl, rfl, (by first | exact loadVar_mtx Try.isAgg31 Try.sizeOf31 | exact loadVar_agg Try.isAgg31 Try.sizeOf31), rfl⟩, ?_⟩ | (refine retD_mark ?_; intro w H; refine ⟨_, ⟨_, _, _, rfl, rfl, (by first | exact loadVar_mtx Try.isAgg31 Try.sizeOf31 | exact loadVar_agg Try.isAgg31 Try.sizeOf31), rfl⟩, ?_⟩) | (refine retD_mark2 ?_; intro w H; refine ⟨_, ⟨_, _, _, rfl, rfl, (by first | exact loadVar_mtx Try.isAgg31 Try.sizeOf31 | exact loadVar_agg Try.isAgg31 Try.sizeOf31), rfl⟩, ?_⟩)
  exact ⟨rfl, by first | assumption | exact Holds.to (by assumption)⟩
section
variable {w : World} {g : Nat} {n most : Int} {s : St} {op : OpM} {was : Arc} {L : List HProp}
theorem of1_ct (hg : GOk n most s) (h0 : 0 ≤ op.f_W) (H : Holds w (Gh g n most s :: L)) : CT Try.prog 121 [.pointer (some ⟨g, 0, none⟩), op.val] w fun u w' => u = .int .i64 (insC n most s op.f_A op.ar) ∧ Holds w' (Gh g n most (insS n most s op.f_A op.ar) :: L) := by
  refine CT.enter (N := 11) Try.func121 rfl rfl rfl rfl ?_
  refine W.seq (fun K0 hK0 => ?_)
  refine W.region ?_
  refine O.boxP rfl (fun b3 w H => ?_)
  have H : Holds w (pt b3 (.cells op.cs 91 (0, 0)) :: Gh g n most s :: L) := H
  refine O.ex (Ex.assign rfl) rfl ?_
  refine O.nil ?_
  refine hK0 _ _ _ ?_
  refine W.seq (fun K1 hK1 => ?_)
  refine W.drawTo (pt b3 _ :: []) (.take 0 (.take 1 (.take 2 (.take 3 (.one 4 (.one 5 (.take 6 .nil))))))) (mixed) (fun _ _ _ _ h => h) (by assumption) PP.auto (by decide +kernel) (fun w H => ?_)
  refine OQ.ex rfl (fun w H => (Ex.move rfl)) rfl ?_
  refine OQ.ex rfl (fun w H => (by first | exact Ex.field0 fld91_1 rfl | exact Ex.field fld91_1 rfl | exact Ex.fieldS fld91_1 rfl)) rfl ?_
  refine OQ.ex rfl (fun w H => (by first | exact Ex.loadMh Try.isAgg3 rfl | exact Ex.loadP Try.isAgg3 rfl | exact Ex.loadM Try.isAgg3 rfl | exact Ex.loadIn1 Try.isAgg3 rfl (Holds.to (by assumption)) | exact Ex.loadVc Try.isAgg3 rfl | exact Ex.loadR Try.isAgg3 rfl | exact Ex.loadQ Try.isAgg3 rfl)) rfl ?_
  refine OQ.ex rfl (fun w H => (by first | exact Ex.loadAggP Try.isAgg91 Try.sizeOf91 rfl | exact Ex.loadAggN Try.isAgg91 Try.sizeOf91 rfl | exact Ex.loadIn Try.isAgg91 Try.sizeOf91 rfl (Holds.to (by assumption)))) rfl ?_
  refine OQ.step rfl ?_
  refine O.callF Try.call98 rfl rfl (CT.mono (inserted_ct (op := op) h0 (Holds.to (by assumption))) ?_)
  rintro _ w ⟨rfl, H⟩
  refine O.thenNil ⟨(by first | exact Holds.to (by assumption) | assumption), ?_⟩
  refine OQ.step rfl ?_
  refine O.callF Try.call32 rfl rfl (CT.mono (ginsert_ct (a := op.ar) hg (Holds.to (by assumption))) ?_)
  rintro _ w ⟨rfl, H⟩
  refine O.thenNil ⟨(by first | exact Holds.to (by assumption) | assumption), ?_⟩
  refine OQ.ex rfl (fun w H => (Ex.assign rfl)) rfl ?_
  refine OQ.done ?_
  refine hK1 _ _ _ ?_
  refine W.ret ?_
  try dsimp only [thenQ, blockQ, retQ]
  first | refine ⟨_, ⟨_, _, rfl, rfl, rfl⟩, ?_⟩ | (refine retD_mark ?_; intro w H; refine ⟨_, ⟨_, _, rfl, rfl, rfl⟩, ?_⟩) | (refine retD_mark2 ?_; intro w H; refine ⟨_, ⟨_, _, rfl, rfl, rfl⟩, ?_⟩)
  exact ⟨rfl, by first | assumption | exact Holds.to (by assumption)⟩
theorem of2_ct (hg : GOk n most s) (H : Holds w (Gh g n most s :: L)) : CT Try.prog 122 [.pointer (some ⟨g, 0, none⟩), op.val, was.val] w fun u w' => Holds w' (Gh g n most (delS s op.f_A) :: L) := by
  refine CT.enter (N := 10) Try.func122 rfl rfl rfl rfl ?_
  refine W.seq (fun K0 hK0 => ?_)
  refine W.region ?_
  refine O.boxP rfl (fun b4 w H => ?_)
  have H : Holds w (pt b4 (.cells op.cs 91 (0, 0)) :: Gh g n most s :: L) := H
  refine O.boxP rfl (fun b5 w H => ?_)
  refine O.nil ?_
  refine hK0 _ _ _ ?_
  refine W.region ?_
  refine O.ex (Ex.move rfl) rfl ?_
  refine O.ex (by first | exact Ex.field0 fld91_1 rfl | exact Ex.field fld91_1 rfl | exact Ex.fieldS fld91_1 rfl) rfl ?_
  refine O.ex (by first | exact Ex.loadMh Try.isAgg3 rfl | exact Ex.loadP Try.isAgg3 rfl | exact Ex.loadM Try.isAgg3 rfl | exact Ex.loadIn1 Try.isAgg3 rfl (Holds.to (by assumption)) | exact Ex.loadVc Try.isAgg3 rfl | exact Ex.loadR Try.isAgg3 rfl | exact Ex.loadQ Try.isAgg3 rfl) rfl ?_
  refine O.callF Try.call31 rfl rfl (CT.mono (gdelete_ct hg (Holds.to (by assumption))) ?_)
  rintro _ w ⟨-, H⟩
  refine O.nil ?_
  try dsimp only [thenQ, blockQ, retQ]
  first | refine ⟨_, rfl, ?_⟩ | (refine retD_mark ?_; intro w H; refine ⟨_, rfl, ?_⟩) | (refine retD_mark2 ?_; intro w H; refine ⟨_, rfl, ?_⟩)
  exact Holds.to (by assumption)
theorem of3_ct (hg : GOk n most s) (H : Holds w (Gh g n most s :: L)) : CT Try.prog 123 [.pointer (some ⟨g, 0, none⟩), op.val] w fun u w' => u = .int .i64 (thC s op.f_A) ∧ Holds w' (Gh g n most (delS s op.f_A) :: L) := by
  refine CT.enter (N := 9) Try.func123 rfl rfl rfl rfl ?_
  refine W.seq (fun K0 hK0 => ?_)
  refine W.region ?_
  refine O.boxP rfl (fun b3 w H => ?_)
  have H : Holds w (pt b3 (.cells op.cs 91 (0, 0)) :: Gh g n most s :: L) := H
  refine O.ex (Ex.assign rfl) rfl ?_
  refine O.nil ?_
  refine hK0 _ _ _ ?_
  refine W.seq (fun K1 hK1 => ?_)
  refine W.region ?_
  refine O.ex (Ex.move rfl) rfl ?_
  refine O.ex (by first | exact Ex.field0 fld91_1 rfl | exact Ex.field fld91_1 rfl | exact Ex.fieldS fld91_1 rfl) rfl ?_
  refine O.ex (by first | exact Ex.loadMh Try.isAgg3 rfl | exact Ex.loadP Try.isAgg3 rfl | exact Ex.loadM Try.isAgg3 rfl | exact Ex.loadIn1 Try.isAgg3 rfl (Holds.to (by assumption)) | exact Ex.loadVc Try.isAgg3 rfl | exact Ex.loadR Try.isAgg3 rfl | exact Ex.loadQ Try.isAgg3 rfl) rfl ?_
  refine O.callF Try.call31 rfl rfl (CT.mono (gdelete_ct hg (Holds.to (by assumption))) ?_)
  rintro _ w ⟨rfl, H⟩
  refine O.ex (Ex.assign rfl) rfl ?_
  refine O.nil ?_
  refine hK1 _ _ _ ?_
  refine W.ret ?_
  try dsimp only [thenQ, blockQ, retQ]
  first | refine ⟨_, ⟨_, _, rfl, rfl, rfl⟩, ?_⟩ | (refine retD_mark ?_; intro w H; refine ⟨_, ⟨_, _, rfl, rfl, rfl⟩, ?_⟩) | (refine retD_mark2 ?_; intro w H; refine ⟨_, ⟨_, _, rfl, rfl, rfl⟩, ?_⟩)
  exact ⟨rfl, by first | assumption | exact Holds.to (by assumption)⟩
theorem of4_ct (hg : GOk n most s) (H : Holds w (Gh g n most s :: L)) : CT Try.prog 124 [.pointer (some ⟨g, 0, none⟩), op.val, was.val] w fun u w' => Holds w' (Gh g n most (insS n most s op.f_A was) :: L) := by
  refine CT.enter (N := 11) Try.func124 rfl rfl rfl rfl ?_
  refine W.seq (fun K0 hK0 => ?_)
  refine W.region ?_
  refine O.boxP rfl (fun b4 w H => ?_)
  refine O.boxP rfl (fun b5 w H => ?_)
  have H : Holds w (pt b5 (.cells (acs was) 31 (0, 0)) :: pt b4 (.cells op.cs 91 (0, 0)) :: Gh g n most s :: L) := H
  refine O.nil ?_
  refine hK0 _ _ _ ?_
  refine W.region ?_
  refine O.ex (Ex.move rfl) rfl ?_
  refine O.ex (by first | exact Ex.field0 fld91_1 rfl | exact Ex.field fld91_1 rfl | exact Ex.fieldS fld91_1 rfl) rfl ?_
  refine O.ex (by first | exact Ex.loadMh Try.isAgg3 rfl | exact Ex.loadP Try.isAgg3 rfl | exact Ex.loadM Try.isAgg3 rfl | exact Ex.loadIn1 Try.isAgg3 rfl (Holds.to (by assumption)) | exact Ex.loadVc Try.isAgg3 rfl | exact Ex.loadR Try.isAgg3 rfl | exact Ex.loadQ Try.isAgg3 rfl) rfl ?_
  refine O.ex (by first | exact Ex.loadAggP Try.isAgg31 Try.sizeOf31 rfl | exact Ex.loadAggN Try.isAgg31 Try.sizeOf31 rfl | exact Ex.loadIn Try.isAgg31 Try.sizeOf31 rfl (Holds.to (by assumption))) rfl ?_
  refine O.callF Try.call32 rfl rfl (CT.mono (ginsert_ct (a := was) hg (Holds.to (by assumption))) ?_)
  rintro _ w ⟨-, H⟩
  refine O.nil ?_
  try dsimp only [thenQ, blockQ, retQ]
  first | refine ⟨_, rfl, ?_⟩ | (refine retD_mark ?_; intro w H; refine ⟨_, rfl, ?_⟩) | (refine retD_mark2 ?_; intro w H; refine ⟨_, rfl, ?_⟩)
  exact Holds.to (by assumption)
theorem of5_ct (H : Holds w (Gh g n most s :: L)) : CT Try.prog 125 [.pointer (some ⟨g, 0, none⟩), op.val] w fun u w' => u = .int .i64 (turnC s op.f_A true) ∧ Holds w' (Gh g n most (turnS s op.f_A true) :: L) := by
  refine CT.enter (N := 9) Try.func125 rfl rfl rfl rfl ?_
  refine W.seq (fun K0 hK0 => ?_)
  refine W.region ?_
  refine O.boxP rfl (fun b3 w H => ?_)
  have H : Holds w (pt b3 (.cells op.cs 91 (0, 0)) :: Gh g n most s :: L) := H
  refine O.ex (Ex.assign rfl) rfl ?_
  refine O.nil ?_
  refine hK0 _ _ _ ?_
  refine W.seq (fun K1 hK1 => ?_)
  refine W.region ?_
  refine O.ex (Ex.move rfl) rfl ?_
  refine O.ex (by first | exact Ex.field0 fld91_1 rfl | exact Ex.field fld91_1 rfl | exact Ex.fieldS fld91_1 rfl) rfl ?_
  refine O.ex (by first | exact Ex.loadMh Try.isAgg3 rfl | exact Ex.loadP Try.isAgg3 rfl | exact Ex.loadM Try.isAgg3 rfl | exact Ex.loadIn1 Try.isAgg3 rfl (Holds.to (by assumption)) | exact Ex.loadVc Try.isAgg3 rfl | exact Ex.loadR Try.isAgg3 rfl | exact Ex.loadQ Try.isAgg3 rfl) rfl ?_
  refine O.callF Try.call34 rfl rfl (CT.mono (gClose_ct (Holds.to (by assumption))) ?_)
  rintro _ w ⟨rfl, H⟩
  refine O.ex (Ex.assign rfl) rfl ?_
  refine O.nil ?_
  refine hK1 _ _ _ ?_
  refine W.ret ?_
  try dsimp only [thenQ, blockQ, retQ]
  first | refine ⟨_, ⟨_, _, rfl, rfl, rfl⟩, ?_⟩ | (refine retD_mark ?_; intro w H; refine ⟨_, ⟨_, _, rfl, rfl, rfl⟩, ?_⟩) | (refine retD_mark2 ?_; intro w H; refine ⟨_, ⟨_, _, rfl, rfl, rfl⟩, ?_⟩)
  exact ⟨rfl, by first | assumption | exact Holds.to (by assumption)⟩
theorem of6_ct (H : Holds w (Gh g n most s :: L)) : CT Try.prog 126 [.pointer (some ⟨g, 0, none⟩), op.val, was.val] w fun u w' => Holds w' (Gh g n most (turnS s op.f_A false) :: L) := by
  refine CT.enter (N := 10) Try.func126 rfl rfl rfl rfl ?_
  refine W.seq (fun K0 hK0 => ?_)
  refine W.region ?_
  refine O.boxP rfl (fun b4 w H => ?_)
  have H : Holds w (pt b4 (.cells op.cs 91 (0, 0)) :: Gh g n most s :: L) := H
  refine O.boxP rfl (fun b5 w H => ?_)
  refine O.nil ?_
  refine hK0 _ _ _ ?_
  refine W.region ?_
  refine O.ex (Ex.move rfl) rfl ?_
  refine O.ex (by first | exact Ex.field0 fld91_1 rfl | exact Ex.field fld91_1 rfl | exact Ex.fieldS fld91_1 rfl) rfl ?_
  refine O.ex (by first | exact Ex.loadMh Try.isAgg3 rfl | exact Ex.loadP Try.isAgg3 rfl | exact Ex.loadM Try.isAgg3 rfl | exact Ex.loadIn1 Try.isAgg3 rfl (Holds.to (by assumption)) | exact Ex.loadVc Try.isAgg3 rfl | exact Ex.loadR Try.isAgg3 rfl | exact Ex.loadQ Try.isAgg3 rfl) rfl ?_
  refine O.callF Try.call33 rfl rfl (CT.mono (gReopen_ct (Holds.to (by assumption))) ?_)
  rintro _ w ⟨-, H⟩
  refine O.nil ?_
  try dsimp only [thenQ, blockQ, retQ]
  first | refine ⟨_, rfl, ?_⟩ | (refine retD_mark ?_; intro w H; refine ⟨_, rfl, ?_⟩) | (refine retD_mark2 ?_; intro w H; refine ⟨_, rfl, ?_⟩)
  exact Holds.to (by assumption)
theorem of7_ct (H : Holds w (Gh g n most s :: L)) : CT Try.prog 127 [.pointer (some ⟨g, 0, none⟩), op.val] w fun u w' => u = .int .i64 (turnC s op.f_A false) ∧ Holds w' (Gh g n most (turnS s op.f_A false) :: L) := by
  refine CT.enter (N := 9) Try.func127 rfl rfl rfl rfl ?_
  refine W.seq (fun K0 hK0 => ?_)
  refine W.region ?_
  refine O.boxP rfl (fun b3 w H => ?_)
  have H : Holds w (pt b3 (.cells op.cs 91 (0, 0)) :: Gh g n most s :: L) := H
  refine O.ex (Ex.assign rfl) rfl ?_
  refine O.nil ?_
  refine hK0 _ _ _ ?_
  refine W.seq (fun K1 hK1 => ?_)
  refine W.region ?_
  refine O.ex (Ex.move rfl) rfl ?_
  refine O.ex (by first | exact Ex.field0 fld91_1 rfl | exact Ex.field fld91_1 rfl | exact Ex.fieldS fld91_1 rfl) rfl ?_
  refine O.ex (by first | exact Ex.loadMh Try.isAgg3 rfl | exact Ex.loadP Try.isAgg3 rfl | exact Ex.loadM Try.isAgg3 rfl | exact Ex.loadIn1 Try.isAgg3 rfl (Holds.to (by assumption)) | exact Ex.loadVc Try.isAgg3 rfl | exact Ex.loadR Try.isAgg3 rfl | exact Ex.loadQ Try.isAgg3 rfl) rfl ?_
  refine O.callF Try.call33 rfl rfl (CT.mono (gReopen_ct (Holds.to (by assumption))) ?_)
  rintro _ w ⟨rfl, H⟩
  refine O.ex (Ex.assign rfl) rfl ?_
  refine O.nil ?_
  refine hK1 _ _ _ ?_
  refine W.ret ?_
  try dsimp only [thenQ, blockQ, retQ]
  first | refine ⟨_, ⟨_, _, rfl, rfl, rfl⟩, ?_⟩ | (refine retD_mark ?_; intro w H; refine ⟨_, ⟨_, _, rfl, rfl, rfl⟩, ?_⟩) | (refine retD_mark2 ?_; intro w H; refine ⟨_, ⟨_, _, rfl, rfl, rfl⟩, ?_⟩)
  exact ⟨rfl, by first | assumption | exact Holds.to (by assumption)⟩
theorem of8_ct (H : Holds w (Gh g n most s :: L)) : CT Try.prog 128 [.pointer (some ⟨g, 0, none⟩), op.val, was.val] w fun u w' => Holds w' (Gh g n most (turnS s op.f_A true) :: L) := by
  refine CT.enter (N := 10) Try.func128 rfl rfl rfl rfl ?_
  refine W.seq (fun K0 hK0 => ?_)
  refine W.region ?_
  refine O.boxP rfl (fun b4 w H => ?_)
  have H : Holds w (pt b4 (.cells op.cs 91 (0, 0)) :: Gh g n most s :: L) := H
  refine O.boxP rfl (fun b5 w H => ?_)
  refine O.nil ?_
  refine hK0 _ _ _ ?_
  refine W.region ?_
  refine O.ex (Ex.move rfl) rfl ?_
  refine O.ex (by first | exact Ex.field0 fld91_1 rfl | exact Ex.field fld91_1 rfl | exact Ex.fieldS fld91_1 rfl) rfl ?_
  refine O.ex (by first | exact Ex.loadMh Try.isAgg3 rfl | exact Ex.loadP Try.isAgg3 rfl | exact Ex.loadM Try.isAgg3 rfl | exact Ex.loadIn1 Try.isAgg3 rfl (Holds.to (by assumption)) | exact Ex.loadVc Try.isAgg3 rfl | exact Ex.loadR Try.isAgg3 rfl | exact Ex.loadQ Try.isAgg3 rfl) rfl ?_
  refine O.callF Try.call34 rfl rfl (CT.mono (gClose_ct (Holds.to (by assumption))) ?_)
  rintro _ w ⟨-, H⟩
  refine O.nil ?_
  try dsimp only [thenQ, blockQ, retQ]
  first | refine ⟨_, rfl, ?_⟩ | (refine retD_mark ?_; intro w H; refine ⟨_, rfl, ?_⟩) | (refine retD_mark2 ?_; intro w H; refine ⟨_, rfl, ?_⟩)
  exact Holds.to (by assumption)
theorem of9_ct (h0 : 0 ≤ op.f_W) (H : Holds w (Gh g n most s :: L)) : CT Try.prog 129 [.pointer (some ⟨g, 0, none⟩), op.val] w fun u w' => u = .int .i64 (weighC s op.f_A op.oW) ∧ Holds w' (Gh g n most (weighS s op.f_A op.oW) :: L) := by
  refine CT.enter (N := 11) Try.func129 rfl rfl rfl rfl ?_
  refine W.seq (fun K0 hK0 => ?_)
  refine W.region ?_
  refine O.boxP rfl (fun b3 w H => ?_)
  have H : Holds w (pt b3 (.cells op.cs 91 (0, 0)) :: Gh g n most s :: L) := H
  refine O.ex (Ex.assign rfl) rfl ?_
  refine O.nil ?_
  refine hK0 _ _ _ ?_
  refine W.seq (fun K1 hK1 => ?_)
  refine W.drawTo (pt b3 _ :: []) (.take 0 (.take 1 (.take 2 (.take 3 (.one 4 (.one 5 (.take 6 .nil))))))) (mixed) (fun _ _ _ _ h => h) (by assumption) PP.auto (by decide +kernel) (fun w H => ?_)
  refine OQ.ex rfl (fun w H => (Ex.move rfl)) rfl ?_
  refine OQ.ex rfl (fun w H => (by first | exact Ex.field0 fld91_1 rfl | exact Ex.field fld91_1 rfl | exact Ex.fieldS fld91_1 rfl)) rfl ?_
  refine OQ.ex rfl (fun w H => (by first | exact Ex.loadMh Try.isAgg3 rfl | exact Ex.loadP Try.isAgg3 rfl | exact Ex.loadM Try.isAgg3 rfl | exact Ex.loadIn1 Try.isAgg3 rfl (Holds.to (by assumption)) | exact Ex.loadVc Try.isAgg3 rfl | exact Ex.loadR Try.isAgg3 rfl | exact Ex.loadQ Try.isAgg3 rfl)) rfl ?_
  refine OQ.ex rfl (fun w H => (by first | exact Ex.loadAggP Try.isAgg91 Try.sizeOf91 rfl | exact Ex.loadAggN Try.isAgg91 Try.sizeOf91 rfl | exact Ex.loadIn Try.isAgg91 Try.sizeOf91 rfl (Holds.to (by assumption)))) rfl ?_
  refine OQ.step rfl ?_
  refine O.callF Try.call130 rfl rfl (CT.mono (uweight_ct (op := op) h0 (Holds.to (by assumption))) ?_)
  rintro _ w ⟨rfl, H⟩
  refine O.thenNil ⟨(by first | exact Holds.to (by assumption) | assumption), ?_⟩
  refine OQ.step rfl ?_
  refine O.callF Try.call35 rfl rfl (CT.mono (gweigh_ct (v := op.oW) (Holds.to (by assumption))) ?_)
  rintro _ w ⟨rfl, H⟩
  refine O.thenNil ⟨(by first | exact Holds.to (by assumption) | assumption), ?_⟩
  refine OQ.ex rfl (fun w H => (Ex.assign rfl)) rfl ?_
  refine OQ.done ?_
  refine hK1 _ _ _ ?_
  refine W.ret ?_
  try dsimp only [thenQ, blockQ, retQ]
  first | refine ⟨_, ⟨_, _, rfl, rfl, rfl⟩, ?_⟩ | (refine retD_mark ?_; intro w H; refine ⟨_, ⟨_, _, rfl, rfl, rfl⟩, ?_⟩) | (refine retD_mark2 ?_; intro w H; refine ⟨_, ⟨_, _, rfl, rfl, rfl⟩, ?_⟩)
  exact ⟨rfl, by first | assumption | exact Holds.to (by assumption)⟩
theorem of10_ct (H : Holds w (Gh g n most s :: L)) : CT Try.prog 131 [.pointer (some ⟨g, 0, none⟩), op.val, was.val] w fun u w' => Holds w' (Gh g n most (weighS s op.f_A was.w) :: L) := by
  refine CT.enter (N := 12) Try.func131 rfl rfl rfl rfl ?_
  refine W.seq (fun K0 hK0 => ?_)
  refine W.region ?_
  refine O.boxP rfl (fun b4 w H => ?_)
  refine O.boxP rfl (fun b5 w H => ?_)
  have H : Holds w (pt b5 (.cells (acs was) 31 (0, 0)) :: pt b4 (.cells op.cs 91 (0, 0)) :: Gh g n most s :: L) := H
  refine O.nil ?_
  refine hK0 _ _ _ ?_
  refine W.region ?_
  refine O.ex (Ex.move rfl) rfl ?_
  refine O.ex (by first | exact Ex.field0 fld91_1 rfl | exact Ex.field fld91_1 rfl | exact Ex.fieldS fld91_1 rfl) rfl ?_
  refine O.ex (by first | exact Ex.loadMh Try.isAgg3 rfl | exact Ex.loadP Try.isAgg3 rfl | exact Ex.loadM Try.isAgg3 rfl | exact Ex.loadIn1 Try.isAgg3 rfl (Holds.to (by assumption)) | exact Ex.loadVc Try.isAgg3 rfl | exact Ex.loadR Try.isAgg3 rfl | exact Ex.loadQ Try.isAgg3 rfl) rfl ?_
  refine O.ex (by first | exact Ex.field0 fld31_2 rfl | exact Ex.field fld31_2 rfl | exact Ex.fieldS fld31_2 rfl) rfl ?_
  refine O.ex (by first | exact Ex.loadMh Try.isAgg3 rfl | exact Ex.loadP Try.isAgg3 rfl | exact Ex.loadM Try.isAgg3 rfl | exact Ex.loadIn1 Try.isAgg3 rfl (Holds.to (by assumption)) | exact Ex.loadVc Try.isAgg3 rfl | exact Ex.loadR Try.isAgg3 rfl | exact Ex.loadQ Try.isAgg3 rfl) rfl ?_
  refine O.callF Try.call35 rfl rfl (CT.mono (gweigh_ct (v := was.w) (Holds.to (by assumption))) ?_)
  rintro _ w ⟨-, H⟩
  refine O.nil ?_
  try dsimp only [thenQ, blockQ, retQ]
  first | refine ⟨_, rfl, ?_⟩ | (refine retD_mark ?_; intro w H; refine ⟨_, rfl, ?_⟩) | (refine retD_mark2 ?_; intro w H; refine ⟨_, rfl, ?_⟩)
  exact Holds.to (by assumption)
end
end Go.Proofs.Ytakmbbgnnbpkoaa
