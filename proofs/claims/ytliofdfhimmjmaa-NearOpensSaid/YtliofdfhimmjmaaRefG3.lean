import Derived.Test.YtliofdfhimmjmaaRefG2
import Derived.Test.YtliofdfhimmjmaaRrBase
--ARR
--INF
--LOADS loadRT loadRA loadRN loadRM
--AGGLOADS loadRArc
namespace Go.Proofs.Ytliofdfhimmjmaa
open Go.Rr Go Gr
set_option linter.unusedVariables false
structure Chg where
  f_Kind : Int
  f_ID : Int
  f_Arc_Tail : Int
  f_Arc_Head : Int
  f_Arc_Weight : Int
  f_Arc_Closed : Bool
  deriving Inhabited
def Chg.enc (x : Chg) : List Value := [.int .i64 x.f_Kind, .int .i64 x.f_ID, .int .i64 x.f_Arc_Tail, .int .i64 x.f_Arc_Head, .int .i64 x.f_Arc_Weight, .bool x.f_Arc_Closed]
def Chg.ok (x : Chg) : Prop := (Lit.int .i64 x.f_Kind).wf = true ∧ (Lit.int .i64 x.f_ID).wf = true ∧ (Lit.int .i64 x.f_Arc_Tail).wf = true ∧ (Lit.int .i64 x.f_Arc_Head).wf = true ∧ (Lit.int .i64 x.f_Arc_Weight).wf = true ∧ True
set_option maxRecDepth 100000 in
theorem Chg.elem : ElemOk Try.prog 68 Chg.enc Chg.ok := fun H enc w base spare held fuel cs x h => by
  obtain ⟨ys, n, _, _, hl, hys, hf⟩ := DataW.trod_struct Try.underlying68 h
  have hc : Try.prog.cellsOf 68 = 6 := by kernel_rfl
  rw [hc] at hl
  have c3 : Try.prog.cellsOf 3 = 1 := by kernel_rfl
  have c4 : Try.prog.cellsOf 4 = 1 := by kernel_rfl
  have c42 : Try.prog.cellsOf 42 = 4 := by kernel_rfl
  match cs, hl with
  | [a0, a1, a2, a3, a4, a5], _ =>
    have hy : ys.length = 3 := hys
    have h_0 : DataW.trod enc Try.prog w base spare held n 3 (([a0, a1, a2, a3, a4, a5].drop 0).take (Try.prog.cellsOf 3)) = ys[0]? := hf 0 _ rfl
    rw [List.getElem?_eq_getElem (by omega), c3] at h_0
    simp only [List.drop_zero, List.take_succ_cons, List.take_zero] at h_0
    have h_1 : DataW.trod enc Try.prog w base spare held n 3 (([a0, a1, a2, a3, a4, a5].drop 1).take (Try.prog.cellsOf 3)) = ys[1]? := hf 1 _ rfl
    rw [List.getElem?_eq_getElem (by omega), c3] at h_1
    simp only [List.drop_succ_cons, List.drop_zero, List.take_succ_cons, List.take_zero] at h_1
    have h_2 : DataW.trod enc Try.prog w base spare held n 42 (([a0, a1, a2, a3, a4, a5].drop 2).take (Try.prog.cellsOf 42)) = ys[2]? := hf 2 _ rfl
    rw [List.getElem?_eq_getElem (by omega), c42] at h_2
    simp only [List.drop_succ_cons, List.drop_zero, List.take_succ_cons, List.take_zero] at h_2
    obtain ⟨ys_2, n_2, _, _, _, hys_2, hf_2⟩ := DataW.trod_struct Try.underlying42 h_2
    have hy_2 : ys_2.length = 4 := hys_2
    have h_2_0 : DataW.trod enc Try.prog w base spare held n_2 3 (([a2, a3, a4, a5].drop 0).take (Try.prog.cellsOf 3)) = ys_2[0]? := hf_2 0 _ rfl
    rw [List.getElem?_eq_getElem (by omega), c3] at h_2_0
    simp only [List.drop_zero, List.take_succ_cons, List.take_zero] at h_2_0
    have h_2_1 : DataW.trod enc Try.prog w base spare held n_2 3 (([a2, a3, a4, a5].drop 1).take (Try.prog.cellsOf 3)) = ys_2[1]? := hf_2 1 _ rfl
    rw [List.getElem?_eq_getElem (by omega), c3] at h_2_1
    simp only [List.drop_succ_cons, List.drop_zero, List.take_succ_cons, List.take_zero] at h_2_1
    have h_2_2 : DataW.trod enc Try.prog w base spare held n_2 3 (([a2, a3, a4, a5].drop 2).take (Try.prog.cellsOf 3)) = ys_2[2]? := hf_2 2 _ rfl
    rw [List.getElem?_eq_getElem (by omega), c3] at h_2_2
    simp only [List.drop_succ_cons, List.drop_zero, List.take_succ_cons, List.take_zero] at h_2_2
    have h_2_3 : DataW.trod enc Try.prog w base spare held n_2 4 (([a2, a3, a4, a5].drop 3).take (Try.prog.cellsOf 4)) = ys_2[3]? := hf_2 3 _ rfl
    rw [List.getElem?_eq_getElem (by omega), c4] at h_2_3
    simp only [List.drop_succ_cons, List.drop_zero, List.take_succ_cons, List.take_zero] at h_2_3
    obtain ⟨m0, e0, _, w0⟩ := DataW.trod_int Try.underlying3 h_0
    simp only [List.cons.injEq, and_true] at e0
    subst e0
    obtain ⟨m1, e1, _, w1⟩ := DataW.trod_int Try.underlying3 h_1
    simp only [List.cons.injEq, and_true] at e1
    subst e1
    obtain ⟨m2, e2, _, w2⟩ := DataW.trod_int Try.underlying3 h_2_0
    simp only [List.cons.injEq, and_true] at e2
    subst e2
    obtain ⟨m3, e3, _, w3⟩ := DataW.trod_int Try.underlying3 h_2_1
    simp only [List.cons.injEq, and_true] at e3
    subst e3
    obtain ⟨m4, e4, _, w4⟩ := DataW.trod_int Try.underlying3 h_2_2
    simp only [List.cons.injEq, and_true] at e4
    subst e4
    obtain ⟨m5, e5, _⟩ := DataW.trod_bool Try.underlying4 h_2_3
    simp only [List.cons.injEq, and_true] at e5
    subst e5
    exact ⟨⟨m0, m1, m2, m3, m4, m5⟩, rfl, w0, w1, w2, w3, w4, trivial⟩
def Chg.a (c : Chg) : Arc := ⟨c.f_Arc_Tail, c.f_Arc_Head, c.f_Arc_Weight, c.f_Arc_Closed⟩
def doC (n most : Int) (s : St) (c : Chg) : Int := if c.f_Kind = 0 then insC n most s c.f_ID c.a else if c.f_Kind = 1 then thC s c.f_ID else if c.f_Kind = 2 then turnC s c.f_ID true else if c.f_Kind = 3 then turnC s c.f_ID false else weighC s c.f_ID c.a.w
def doS (n most : Int) (s : St) (c : Chg) : St := if c.f_Kind = 0 then insS n most s c.f_ID c.a else if c.f_Kind = 1 then delS s c.f_ID else if c.f_Kind = 2 then turnS s c.f_ID true else if c.f_Kind = 3 then turnS s c.f_ID false else weighS s c.f_ID c.a.w
theorem ok_do {n most : Int} {s : St} (h : GOk n most s) (c : Chg) : GOk n most (doS n most s c) := by
  unfold doS
  split
  · exact ok_ins h _ _
  · split
    · exact ok_del h _
    · split
      · exact ok_turn h _ _
      · split
        · exact ok_turn h _ _
        · exact ok_weigh h _ _
abbrev Chg.val (c : Chg) : Value := .agg c.enc.toArray
theorem do_ct {w : World} {g : Nat} {n most : Int} {s : St} {c : Chg} {L : List HProp} (hg : GOk n most s) (H : Holds w (Gh g n most s :: L)) :
    CT Try.prog 37 [.pointer (some ⟨g, 0, none⟩), c.val] w fun u w' => u = .int .i64 (doC n most s c) ∧ Holds w' (Gh g n most (doS n most s c) :: L) := by
  refine CT.enter (N := 40) Try.func37 rfl rfl rfl rfl ?_
  refine W.seq (fun K0 hK0 => ?_)
  refine W.region ?_
  refine O.boxP rfl (fun b3 w H => ?_)
  refine O.ex (Ex.assign rfl) rfl ?_
  refine O.nil ?_
  refine hK0 _ _ _ ?_
  refine W.seq (fun K1 hK1 => ?_)
  refine W.seq (fun K2 hK2 => ?_)
  refine W.region ?_
  refine O.ex (by first | exact Ex.field0 fld68_0 rfl | exact Ex.field fld68_0 rfl | exact Ex.fieldS fld68_0 rfl | exact Ex.fieldIn fld68_0 rfl) rfl ?_
  refine O.ex (by first | exact Ex.loadRT Try.isAgg3 rfl | exact Ex.loadRA Try.isAgg3 rfl | exact Ex.loadRN Try.isAgg3 rfl | exact Ex.loadRM Try.isAgg3 rfl | exact Ex.loadMh Try.isAgg3 rfl | exact Ex.loadInF Try.isAgg3 rfl (Holds.to (by assumption)) | exact Ex.loadP Try.isAgg3 rfl | exact Ex.loadM Try.isAgg3 rfl | exact Ex.loadIn1 Try.isAgg3 rfl (Holds.to (by assumption)) | exact Ex.loadVc Try.isAgg3 rfl | exact Ex.loadR Try.isAgg3 rfl | exact Ex.loadQ Try.isAgg3 rfl) rfl ?_
  refine O.nil ?_
  refine hK2 _ _ _ ?_
  refine W.block ?_
  refine W.seq (fun K3 hK3 => ?_)
  refine W.region ?_
  refine O.ex (Ex.eqlI rfl rfl) rfl ?_
  refine O.ex (Ex.assign rfl) rfl ?_
  refine O.nil ?_
  refine hK3 _ _ _ ?_
  first | refine W.cond_p rfl (fun h0 => ?_) (fun h0 => ?_) | refine W.cond_b rfl (fun h0 => ?_) (fun h0 => ?_)
  · refine W.seq (fun K4 hK4 => ?_)
    refine W.region ?_
    refine O.ex (Ex.move rfl) rfl ?_
    refine O.ex (by first | exact Ex.field0 fld68_1 rfl | exact Ex.field fld68_1 rfl | exact Ex.fieldS fld68_1 rfl | exact Ex.fieldIn fld68_1 rfl) rfl ?_
    refine O.ex (by first | exact Ex.loadRT Try.isAgg3 rfl | exact Ex.loadRA Try.isAgg3 rfl | exact Ex.loadRN Try.isAgg3 rfl | exact Ex.loadRM Try.isAgg3 rfl | exact Ex.loadMh Try.isAgg3 rfl | exact Ex.loadInF Try.isAgg3 rfl (Holds.to (by assumption)) | exact Ex.loadP Try.isAgg3 rfl | exact Ex.loadM Try.isAgg3 rfl | exact Ex.loadIn1 Try.isAgg3 rfl (Holds.to (by assumption)) | exact Ex.loadVc Try.isAgg3 rfl | exact Ex.loadR Try.isAgg3 rfl | exact Ex.loadQ Try.isAgg3 rfl) rfl ?_
    refine O.ex (by first | exact Ex.field0 fld68_2 rfl | exact Ex.field fld68_2 rfl | exact Ex.fieldS fld68_2 rfl | exact Ex.fieldIn fld68_2 rfl) rfl ?_
    refine O.ex (by first | exact Ex.loadRArc Try.isAgg42 Try.sizeOf42 rfl | exact Ex.loadAggP Try.isAgg42 Try.sizeOf42 rfl | exact Ex.loadAggN Try.isAgg42 Try.sizeOf42 rfl | exact Ex.loadIn Try.isAgg42 Try.sizeOf42 rfl (Holds.to (by assumption))) rfl ?_
    refine O.callF Try.call35 rfl rfl (CT.mono (ginsert_ct (a := c.a) hg (Holds.to (by assumption))) ?_)
    rintro _ w ⟨rfl, H⟩
    refine O.ex (Ex.assign rfl) rfl ?_
    refine O.nil ?_
    refine hK4 _ _ _ ?_
    refine W.ret ?_
    try dsimp only [thenQ, blockQ, retQ]
    first | refine ⟨_, ⟨_, _, rfl, rfl, rfl⟩, ?_⟩ | (refine retD_mark ?_; intro w H; refine ⟨_, ⟨_, _, rfl, rfl, rfl⟩, ?_⟩) | (refine retD_mark2 ?_; intro w H; refine ⟨_, ⟨_, _, rfl, rfl, rfl⟩, ?_⟩)
    unfold doC doS
    first
    | (rw [if_pos h0, if_pos h0]; exact ⟨rfl, Holds.to (by assumption)⟩)
    | (rw [if_neg h0, if_neg h0, if_pos h1, if_pos h1]; exact ⟨rfl, Holds.to (by assumption)⟩)
    | (rw [if_neg h0, if_neg h0, if_neg h1, if_neg h1, if_pos h2, if_pos h2]; exact ⟨rfl, Holds.to (by assumption)⟩)
    | (rw [if_neg h0, if_neg h0, if_neg h1, if_neg h1, if_neg h2, if_neg h2, if_pos h3, if_pos h3]; exact ⟨rfl, Holds.to (by assumption)⟩)
    | (rw [if_neg h0, if_neg h0, if_neg h1, if_neg h1, if_neg h2, if_neg h2, if_neg h3, if_neg h3]; exact ⟨rfl, Holds.to (by assumption)⟩)
  · refine W.seq (fun K5 hK5 => ?_)
    refine W.region ?_
    refine O.ex (Ex.eqlI rfl rfl) rfl ?_
    refine O.ex (Ex.assign rfl) rfl ?_
    refine O.nil ?_
    refine hK5 _ _ _ ?_
    first | refine W.cond_p rfl (fun h1 => ?_) (fun h1 => ?_) | refine W.cond_b rfl (fun h1 => ?_) (fun h1 => ?_)
    · refine W.seq (fun K6 hK6 => ?_)
      refine W.region ?_
      refine O.ex (Ex.move rfl) rfl ?_
      refine O.ex (by first | exact Ex.field0 fld68_1 rfl | exact Ex.field fld68_1 rfl | exact Ex.fieldS fld68_1 rfl | exact Ex.fieldIn fld68_1 rfl) rfl ?_
      refine O.ex (by first | exact Ex.loadRT Try.isAgg3 rfl | exact Ex.loadRA Try.isAgg3 rfl | exact Ex.loadRN Try.isAgg3 rfl | exact Ex.loadRM Try.isAgg3 rfl | exact Ex.loadMh Try.isAgg3 rfl | exact Ex.loadInF Try.isAgg3 rfl (Holds.to (by assumption)) | exact Ex.loadP Try.isAgg3 rfl | exact Ex.loadM Try.isAgg3 rfl | exact Ex.loadIn1 Try.isAgg3 rfl (Holds.to (by assumption)) | exact Ex.loadVc Try.isAgg3 rfl | exact Ex.loadR Try.isAgg3 rfl | exact Ex.loadQ Try.isAgg3 rfl) rfl ?_
      refine O.callF Try.call60 rfl rfl (CT.mono (gdelete_ct hg (Holds.to (by assumption))) ?_)
      rintro _ w ⟨rfl, H⟩
      refine O.ex (Ex.assign rfl) rfl ?_
      refine O.nil ?_
      refine hK6 _ _ _ ?_
      refine W.ret ?_
      try dsimp only [thenQ, blockQ, retQ]
      first | refine ⟨_, ⟨_, _, rfl, rfl, rfl⟩, ?_⟩ | (refine retD_mark ?_; intro w H; refine ⟨_, ⟨_, _, rfl, rfl, rfl⟩, ?_⟩) | (refine retD_mark2 ?_; intro w H; refine ⟨_, ⟨_, _, rfl, rfl, rfl⟩, ?_⟩)
      unfold doC doS
      first
      | (rw [if_pos h0, if_pos h0]; exact ⟨rfl, Holds.to (by assumption)⟩)
      | (rw [if_neg h0, if_neg h0, if_pos h1, if_pos h1]; exact ⟨rfl, Holds.to (by assumption)⟩)
      | (rw [if_neg h0, if_neg h0, if_neg h1, if_neg h1, if_pos h2, if_pos h2]; exact ⟨rfl, Holds.to (by assumption)⟩)
      | (rw [if_neg h0, if_neg h0, if_neg h1, if_neg h1, if_neg h2, if_neg h2, if_pos h3, if_pos h3]; exact ⟨rfl, Holds.to (by assumption)⟩)
      | (rw [if_neg h0, if_neg h0, if_neg h1, if_neg h1, if_neg h2, if_neg h2, if_neg h3, if_neg h3]; exact ⟨rfl, Holds.to (by assumption)⟩)
    · refine W.seq (fun K7 hK7 => ?_)
      refine W.region ?_
      refine O.ex (Ex.eqlI rfl rfl) rfl ?_
      refine O.ex (Ex.assign rfl) rfl ?_
      refine O.nil ?_
      refine hK7 _ _ _ ?_
      first | refine W.cond_p rfl (fun h2 => ?_) (fun h2 => ?_) | refine W.cond_b rfl (fun h2 => ?_) (fun h2 => ?_)
      · refine W.seq (fun K8 hK8 => ?_)
        refine W.region ?_
        refine O.ex (Ex.move rfl) rfl ?_
        refine O.ex (by first | exact Ex.field0 fld68_1 rfl | exact Ex.field fld68_1 rfl | exact Ex.fieldS fld68_1 rfl | exact Ex.fieldIn fld68_1 rfl) rfl ?_
        refine O.ex (by first | exact Ex.loadRT Try.isAgg3 rfl | exact Ex.loadRA Try.isAgg3 rfl | exact Ex.loadRN Try.isAgg3 rfl | exact Ex.loadRM Try.isAgg3 rfl | exact Ex.loadMh Try.isAgg3 rfl | exact Ex.loadInF Try.isAgg3 rfl (Holds.to (by assumption)) | exact Ex.loadP Try.isAgg3 rfl | exact Ex.loadM Try.isAgg3 rfl | exact Ex.loadIn1 Try.isAgg3 rfl (Holds.to (by assumption)) | exact Ex.loadVc Try.isAgg3 rfl | exact Ex.loadR Try.isAgg3 rfl | exact Ex.loadQ Try.isAgg3 rfl) rfl ?_
        refine O.callF Try.call23 rfl rfl (CT.mono (gClose_ct (Holds.to (by assumption))) ?_)
        rintro _ w ⟨rfl, H⟩
        refine O.ex (Ex.assign rfl) rfl ?_
        refine O.nil ?_
        refine hK8 _ _ _ ?_
        refine W.ret ?_
        try dsimp only [thenQ, blockQ, retQ]
        first | refine ⟨_, ⟨_, _, rfl, rfl, rfl⟩, ?_⟩ | (refine retD_mark ?_; intro w H; refine ⟨_, ⟨_, _, rfl, rfl, rfl⟩, ?_⟩) | (refine retD_mark2 ?_; intro w H; refine ⟨_, ⟨_, _, rfl, rfl, rfl⟩, ?_⟩)
        unfold doC doS
        first
        | (rw [if_pos h0, if_pos h0]; exact ⟨rfl, Holds.to (by assumption)⟩)
        | (rw [if_neg h0, if_neg h0, if_pos h1, if_pos h1]; exact ⟨rfl, Holds.to (by assumption)⟩)
        | (rw [if_neg h0, if_neg h0, if_neg h1, if_neg h1, if_pos h2, if_pos h2]; exact ⟨rfl, Holds.to (by assumption)⟩)
        | (rw [if_neg h0, if_neg h0, if_neg h1, if_neg h1, if_neg h2, if_neg h2, if_pos h3, if_pos h3]; exact ⟨rfl, Holds.to (by assumption)⟩)
        | (rw [if_neg h0, if_neg h0, if_neg h1, if_neg h1, if_neg h2, if_neg h2, if_neg h3, if_neg h3]; exact ⟨rfl, Holds.to (by assumption)⟩)
      · refine W.seq (fun K9 hK9 => ?_)
        refine W.region ?_
        refine O.ex (Ex.eqlI rfl rfl) rfl ?_
        refine O.ex (Ex.assign rfl) rfl ?_
        refine O.nil ?_
        refine hK9 _ _ _ ?_
        first | refine W.cond_p rfl (fun h3 => ?_) (fun h3 => ?_) | refine W.cond_b rfl (fun h3 => ?_) (fun h3 => ?_)
        · refine W.seq (fun K10 hK10 => ?_)
          refine W.region ?_
          refine O.ex (Ex.move rfl) rfl ?_
          refine O.ex (by first | exact Ex.field0 fld68_1 rfl | exact Ex.field fld68_1 rfl | exact Ex.fieldS fld68_1 rfl | exact Ex.fieldIn fld68_1 rfl) rfl ?_
          refine O.ex (by first | exact Ex.loadRT Try.isAgg3 rfl | exact Ex.loadRA Try.isAgg3 rfl | exact Ex.loadRN Try.isAgg3 rfl | exact Ex.loadRM Try.isAgg3 rfl | exact Ex.loadMh Try.isAgg3 rfl | exact Ex.loadInF Try.isAgg3 rfl (Holds.to (by assumption)) | exact Ex.loadP Try.isAgg3 rfl | exact Ex.loadM Try.isAgg3 rfl | exact Ex.loadIn1 Try.isAgg3 rfl (Holds.to (by assumption)) | exact Ex.loadVc Try.isAgg3 rfl | exact Ex.loadR Try.isAgg3 rfl | exact Ex.loadQ Try.isAgg3 rfl) rfl ?_
          refine O.callF Try.call24 rfl rfl (CT.mono (gReopen_ct (Holds.to (by assumption))) ?_)
          rintro _ w ⟨rfl, H⟩
          refine O.ex (Ex.assign rfl) rfl ?_
          refine O.nil ?_
          refine hK10 _ _ _ ?_
          refine W.ret ?_
          try dsimp only [thenQ, blockQ, retQ]
          first | refine ⟨_, ⟨_, _, rfl, rfl, rfl⟩, ?_⟩ | (refine retD_mark ?_; intro w H; refine ⟨_, ⟨_, _, rfl, rfl, rfl⟩, ?_⟩) | (refine retD_mark2 ?_; intro w H; refine ⟨_, ⟨_, _, rfl, rfl, rfl⟩, ?_⟩)
          unfold doC doS
          first
          | (rw [if_pos h0, if_pos h0]; exact ⟨rfl, Holds.to (by assumption)⟩)
          | (rw [if_neg h0, if_neg h0, if_pos h1, if_pos h1]; exact ⟨rfl, Holds.to (by assumption)⟩)
          | (rw [if_neg h0, if_neg h0, if_neg h1, if_neg h1, if_pos h2, if_pos h2]; exact ⟨rfl, Holds.to (by assumption)⟩)
          | (rw [if_neg h0, if_neg h0, if_neg h1, if_neg h1, if_neg h2, if_neg h2, if_pos h3, if_pos h3]; exact ⟨rfl, Holds.to (by assumption)⟩)
          | (rw [if_neg h0, if_neg h0, if_neg h1, if_neg h1, if_neg h2, if_neg h2, if_neg h3, if_neg h3]; exact ⟨rfl, Holds.to (by assumption)⟩)
        · refine W.skip ?_
          refine hK1 _ _ _ ?_
          refine W.seq (fun K11 hK11 => ?_)
          refine W.region ?_
          refine O.ex (Ex.move rfl) rfl ?_
          refine O.ex (by first | exact Ex.field0 fld68_1 rfl | exact Ex.field fld68_1 rfl | exact Ex.fieldS fld68_1 rfl | exact Ex.fieldIn fld68_1 rfl) rfl ?_
          refine O.ex (by first | exact Ex.loadRT Try.isAgg3 rfl | exact Ex.loadRA Try.isAgg3 rfl | exact Ex.loadRN Try.isAgg3 rfl | exact Ex.loadRM Try.isAgg3 rfl | exact Ex.loadMh Try.isAgg3 rfl | exact Ex.loadInF Try.isAgg3 rfl (Holds.to (by assumption)) | exact Ex.loadP Try.isAgg3 rfl | exact Ex.loadM Try.isAgg3 rfl | exact Ex.loadIn1 Try.isAgg3 rfl (Holds.to (by assumption)) | exact Ex.loadVc Try.isAgg3 rfl | exact Ex.loadR Try.isAgg3 rfl | exact Ex.loadQ Try.isAgg3 rfl) rfl ?_
          refine O.ex (by first | exact Ex.field0 fld68_2 rfl | exact Ex.field fld68_2 rfl | exact Ex.fieldS fld68_2 rfl | exact Ex.fieldIn fld68_2 rfl) rfl ?_
          refine O.ex (by first | exact Ex.field0 fld42_2 rfl | exact Ex.field fld42_2 rfl | exact Ex.fieldS fld42_2 rfl | exact Ex.fieldIn fld42_2 rfl) rfl ?_
          refine O.ex (by first | exact Ex.loadRT Try.isAgg3 rfl | exact Ex.loadRA Try.isAgg3 rfl | exact Ex.loadRN Try.isAgg3 rfl | exact Ex.loadRM Try.isAgg3 rfl | exact Ex.loadMh Try.isAgg3 rfl | exact Ex.loadInF Try.isAgg3 rfl (Holds.to (by assumption)) | exact Ex.loadP Try.isAgg3 rfl | exact Ex.loadM Try.isAgg3 rfl | exact Ex.loadIn1 Try.isAgg3 rfl (Holds.to (by assumption)) | exact Ex.loadVc Try.isAgg3 rfl | exact Ex.loadR Try.isAgg3 rfl | exact Ex.loadQ Try.isAgg3 rfl) rfl ?_
          refine O.callF Try.call61 rfl rfl (CT.mono (gweigh_ct (v := c.a.w) (Holds.to (by assumption))) ?_)
          rintro _ w ⟨rfl, H⟩
          refine O.ex (Ex.assign rfl) rfl ?_
          refine O.nil ?_
          refine hK11 _ _ _ ?_
          refine W.ret ?_
          try dsimp only [thenQ, blockQ, retQ]
          first | refine ⟨_, ⟨_, _, rfl, rfl, rfl⟩, ?_⟩ | (refine retD_mark ?_; intro w H; refine ⟨_, ⟨_, _, rfl, rfl, rfl⟩, ?_⟩) | (refine retD_mark2 ?_; intro w H; refine ⟨_, ⟨_, _, rfl, rfl, rfl⟩, ?_⟩)
          unfold doC doS
          first
          | (rw [if_pos h0, if_pos h0]; exact ⟨rfl, Holds.to (by assumption)⟩)
          | (rw [if_neg h0, if_neg h0, if_pos h1, if_pos h1]; exact ⟨rfl, Holds.to (by assumption)⟩)
          | (rw [if_neg h0, if_neg h0, if_neg h1, if_neg h1, if_pos h2, if_pos h2]; exact ⟨rfl, Holds.to (by assumption)⟩)
          | (rw [if_neg h0, if_neg h0, if_neg h1, if_neg h1, if_neg h2, if_neg h2, if_pos h3, if_pos h3]; exact ⟨rfl, Holds.to (by assumption)⟩)
          | (rw [if_neg h0, if_neg h0, if_neg h1, if_neg h1, if_neg h2, if_neg h2, if_neg h3, if_neg h3]; exact ⟨rfl, Holds.to (by assumption)⟩)
theorem doRef_ct {w : World} {r : Nat} {n most : Int} {s : St} {c : Chg} {L : List HProp} (H : Holds w (Rg r n most s :: L)) :
    CT Try.prog 38 [.pointer (some ⟨r, 0, none⟩), c.val] w fun u w' => u = .int .i64 (doC n most s c) ∧ Holds w' (Rg r n most (doS n most s c) :: L) := by
  refine CT.enter (N := 38) Try.func38 rfl rfl rfl rfl ?_
  refine W.seq (fun K0 hK0 => ?_)
  refine W.region ?_
  refine O.boxP rfl (fun b3 w H => ?_)
  refine O.ex (Ex.assign rfl) rfl ?_
  refine O.nil ?_
  refine hK0 _ _ _ ?_
  refine W.seq (fun K1 hK1 => ?_)
  refine W.seq (fun K2 hK2 => ?_)
  refine W.region ?_
  refine O.ex (by first | exact Ex.field0 fld68_0 rfl | exact Ex.field fld68_0 rfl | exact Ex.fieldS fld68_0 rfl | exact Ex.fieldIn fld68_0 rfl) rfl ?_
  refine O.ex (by first | exact Ex.loadRT Try.isAgg3 rfl | exact Ex.loadRA Try.isAgg3 rfl | exact Ex.loadRN Try.isAgg3 rfl | exact Ex.loadRM Try.isAgg3 rfl | exact Ex.loadMh Try.isAgg3 rfl | exact Ex.loadInF Try.isAgg3 rfl (Holds.to (by assumption)) | exact Ex.loadP Try.isAgg3 rfl | exact Ex.loadM Try.isAgg3 rfl | exact Ex.loadIn1 Try.isAgg3 rfl (Holds.to (by assumption)) | exact Ex.loadVc Try.isAgg3 rfl | exact Ex.loadR Try.isAgg3 rfl | exact Ex.loadQ Try.isAgg3 rfl) rfl ?_
  refine O.nil ?_
  refine hK2 _ _ _ ?_
  refine W.block ?_
  refine W.seq (fun K3 hK3 => ?_)
  refine W.region ?_
  refine O.ex (Ex.eqlI rfl rfl) rfl ?_
  refine O.ex (Ex.assign rfl) rfl ?_
  refine O.nil ?_
  refine hK3 _ _ _ ?_
  first | refine W.cond_p rfl (fun h0 => ?_) (fun h0 => ?_) | refine W.cond_b rfl (fun h0 => ?_) (fun h0 => ?_)
  · refine W.seq (fun K4 hK4 => ?_)
    refine W.region ?_
    refine O.ex (Ex.move rfl) rfl ?_
    refine O.ex (by first | exact Ex.field0 fld68_1 rfl | exact Ex.field fld68_1 rfl | exact Ex.fieldS fld68_1 rfl | exact Ex.fieldIn fld68_1 rfl) rfl ?_
    refine O.ex (by first | exact Ex.loadRT Try.isAgg3 rfl | exact Ex.loadRA Try.isAgg3 rfl | exact Ex.loadRN Try.isAgg3 rfl | exact Ex.loadRM Try.isAgg3 rfl | exact Ex.loadMh Try.isAgg3 rfl | exact Ex.loadInF Try.isAgg3 rfl (Holds.to (by assumption)) | exact Ex.loadP Try.isAgg3 rfl | exact Ex.loadM Try.isAgg3 rfl | exact Ex.loadIn1 Try.isAgg3 rfl (Holds.to (by assumption)) | exact Ex.loadVc Try.isAgg3 rfl | exact Ex.loadR Try.isAgg3 rfl | exact Ex.loadQ Try.isAgg3 rfl) rfl ?_
    refine O.ex (by first | exact Ex.field0 fld68_2 rfl | exact Ex.field fld68_2 rfl | exact Ex.fieldS fld68_2 rfl | exact Ex.fieldIn fld68_2 rfl) rfl ?_
    refine O.ex (by first | exact Ex.loadRArc Try.isAgg42 Try.sizeOf42 rfl | exact Ex.loadAggP Try.isAgg42 Try.sizeOf42 rfl | exact Ex.loadAggN Try.isAgg42 Try.sizeOf42 rfl | exact Ex.loadIn Try.isAgg42 Try.sizeOf42 rfl (Holds.to (by assumption))) rfl ?_
    refine O.callF Try.call62 rfl rfl (CT.mono (rinsert_ct (a := c.a) (Holds.to (by assumption))) ?_)
    rintro _ w ⟨rfl, H⟩
    refine O.ex (Ex.assign rfl) rfl ?_
    refine O.nil ?_
    refine hK4 _ _ _ ?_
    refine W.ret ?_
    try dsimp only [thenQ, blockQ, retQ]
    first | refine ⟨_, ⟨_, _, rfl, rfl, rfl⟩, ?_⟩ | (refine retD_mark ?_; intro w H; refine ⟨_, ⟨_, _, rfl, rfl, rfl⟩, ?_⟩) | (refine retD_mark2 ?_; intro w H; refine ⟨_, ⟨_, _, rfl, rfl, rfl⟩, ?_⟩)
    unfold doC doS
    first
    | (rw [if_pos h0, if_pos h0]; exact ⟨rfl, Holds.to (by assumption)⟩)
    | (rw [if_neg h0, if_neg h0, if_pos h1, if_pos h1]; exact ⟨rfl, Holds.to (by assumption)⟩)
    | (rename_i h4
       have h2' : c.f_Kind = 2 := h4
       rw [if_neg h0, if_neg h0, if_neg h1, if_neg h1, if_pos h2', if_pos h2']; rw [decide_eq_true h2'] at H; rw [decide_eq_true h2']; exact ⟨rfl, Holds.to (by assumption)⟩)
    | (rename_i h4
       have h2' : ¬ c.f_Kind = 2 := h4
       have h3' : c.f_Kind = 3 := h2
       rw [if_neg h0, if_neg h0, if_neg h1, if_neg h1, if_neg h2', if_neg h2', if_pos h3', if_pos h3']; rw [decide_eq_false h2'] at H; rw [decide_eq_false h2']; exact ⟨rfl, Holds.to (by assumption)⟩)
    | (rename_i h4; exact absurd h4 h2)
    | (rename_i h4
       have h2' : ¬ c.f_Kind = 2 := h4
       have h3' : ¬ c.f_Kind = 3 := h2
       rw [if_neg h0, if_neg h0, if_neg h1, if_neg h1, if_neg h2', if_neg h2', if_neg h3', if_neg h3']; exact ⟨rfl, Holds.to (by assumption)⟩)
  · refine W.seq (fun K5 hK5 => ?_)
    refine W.region ?_
    refine O.ex (Ex.eqlI rfl rfl) rfl ?_
    refine O.ex (Ex.assign rfl) rfl ?_
    refine O.nil ?_
    refine hK5 _ _ _ ?_
    first | refine W.cond_p rfl (fun h1 => ?_) (fun h1 => ?_) | refine W.cond_b rfl (fun h1 => ?_) (fun h1 => ?_)
    · refine W.seq (fun K6 hK6 => ?_)
      refine W.region ?_
      refine O.ex (Ex.move rfl) rfl ?_
      refine O.ex (by first | exact Ex.field0 fld68_1 rfl | exact Ex.field fld68_1 rfl | exact Ex.fieldS fld68_1 rfl | exact Ex.fieldIn fld68_1 rfl) rfl ?_
      refine O.ex (by first | exact Ex.loadRT Try.isAgg3 rfl | exact Ex.loadRA Try.isAgg3 rfl | exact Ex.loadRN Try.isAgg3 rfl | exact Ex.loadRM Try.isAgg3 rfl | exact Ex.loadMh Try.isAgg3 rfl | exact Ex.loadInF Try.isAgg3 rfl (Holds.to (by assumption)) | exact Ex.loadP Try.isAgg3 rfl | exact Ex.loadM Try.isAgg3 rfl | exact Ex.loadIn1 Try.isAgg3 rfl (Holds.to (by assumption)) | exact Ex.loadVc Try.isAgg3 rfl | exact Ex.loadR Try.isAgg3 rfl | exact Ex.loadQ Try.isAgg3 rfl) rfl ?_
      refine O.callF Try.call63 rfl rfl (CT.mono (rdelete_ct (Holds.to (by assumption))) ?_)
      rintro _ w ⟨rfl, H⟩
      refine O.ex (Ex.assign rfl) rfl ?_
      refine O.nil ?_
      refine hK6 _ _ _ ?_
      refine W.ret ?_
      try dsimp only [thenQ, blockQ, retQ]
      first | refine ⟨_, ⟨_, _, rfl, rfl, rfl⟩, ?_⟩ | (refine retD_mark ?_; intro w H; refine ⟨_, ⟨_, _, rfl, rfl, rfl⟩, ?_⟩) | (refine retD_mark2 ?_; intro w H; refine ⟨_, ⟨_, _, rfl, rfl, rfl⟩, ?_⟩)
      unfold doC doS
      first
      | (rw [if_pos h0, if_pos h0]; exact ⟨rfl, Holds.to (by assumption)⟩)
      | (rw [if_neg h0, if_neg h0, if_pos h1, if_pos h1]; exact ⟨rfl, Holds.to (by assumption)⟩)
      | (rename_i h4
         have h2' : c.f_Kind = 2 := h4
         rw [if_neg h0, if_neg h0, if_neg h1, if_neg h1, if_pos h2', if_pos h2']; rw [decide_eq_true h2'] at H; rw [decide_eq_true h2']; exact ⟨rfl, Holds.to (by assumption)⟩)
      | (rename_i h4
         have h2' : ¬ c.f_Kind = 2 := h4
         have h3' : c.f_Kind = 3 := h2
         rw [if_neg h0, if_neg h0, if_neg h1, if_neg h1, if_neg h2', if_neg h2', if_pos h3', if_pos h3']; rw [decide_eq_false h2'] at H; rw [decide_eq_false h2']; exact ⟨rfl, Holds.to (by assumption)⟩)
      | (rename_i h4; exact absurd h4 h2)
      | (rename_i h4
         have h2' : ¬ c.f_Kind = 2 := h4
         have h3' : ¬ c.f_Kind = 3 := h2
         rw [if_neg h0, if_neg h0, if_neg h1, if_neg h1, if_neg h2', if_neg h2', if_neg h3', if_neg h3']; exact ⟨rfl, Holds.to (by assumption)⟩)
    · refine W.seq (fun K7 hK7 => ?_)
      refine W.seq (fun K8 hK8 => ?_)
      refine W.region ?_
      refine O.ex (Ex.eqlI rfl rfl) rfl ?_
      refine O.ex (Ex.assign rfl) rfl ?_
      refine O.nil ?_
      refine hK8 _ _ _ ?_
      first | refine W.cond_p rfl (fun h2 => ?_) (fun h2 => ?_) | refine W.cond_b rfl (fun h2 => ?_) (fun h2 => ?_)
      · refine W.skip ?_
        refine hK7 _ _ _ ?_
        first | refine W.cond_p rfl (fun h2 => ?_) (fun h2 => ?_) | refine W.cond_b rfl (fun h2 => ?_) (fun h2 => ?_)
        · refine W.seq (fun K9 hK9 => ?_)
          refine W.region ?_
          refine O.ex (Ex.move rfl) rfl ?_
          refine O.ex (by first | exact Ex.field0 fld68_1 rfl | exact Ex.field fld68_1 rfl | exact Ex.fieldS fld68_1 rfl | exact Ex.fieldIn fld68_1 rfl) rfl ?_
          refine O.ex (by first | exact Ex.loadRT Try.isAgg3 rfl | exact Ex.loadRA Try.isAgg3 rfl | exact Ex.loadRN Try.isAgg3 rfl | exact Ex.loadRM Try.isAgg3 rfl | exact Ex.loadMh Try.isAgg3 rfl | exact Ex.loadInF Try.isAgg3 rfl (Holds.to (by assumption)) | exact Ex.loadP Try.isAgg3 rfl | exact Ex.loadM Try.isAgg3 rfl | exact Ex.loadIn1 Try.isAgg3 rfl (Holds.to (by assumption)) | exact Ex.loadVc Try.isAgg3 rfl | exact Ex.loadR Try.isAgg3 rfl | exact Ex.loadQ Try.isAgg3 rfl) rfl ?_
          refine O.ex (by first | exact Ex.field0 fld68_0 rfl | exact Ex.field fld68_0 rfl | exact Ex.fieldS fld68_0 rfl | exact Ex.fieldIn fld68_0 rfl) rfl ?_
          refine O.ex (by first | exact Ex.loadRT Try.isAgg3 rfl | exact Ex.loadRA Try.isAgg3 rfl | exact Ex.loadRN Try.isAgg3 rfl | exact Ex.loadRM Try.isAgg3 rfl | exact Ex.loadMh Try.isAgg3 rfl | exact Ex.loadInF Try.isAgg3 rfl (Holds.to (by assumption)) | exact Ex.loadP Try.isAgg3 rfl | exact Ex.loadM Try.isAgg3 rfl | exact Ex.loadIn1 Try.isAgg3 rfl (Holds.to (by assumption)) | exact Ex.loadVc Try.isAgg3 rfl | exact Ex.loadR Try.isAgg3 rfl | exact Ex.loadQ Try.isAgg3 rfl) rfl ?_
          refine O.ex (Ex.eqlI rfl rfl) rfl ?_
          refine O.callF Try.call64 rfl rfl (CT.mono (rturn_ct (Holds.to (by assumption))) ?_)
          rintro _ w ⟨rfl, H⟩
          refine O.ex (Ex.assign rfl) rfl ?_
          refine O.nil ?_
          refine hK9 _ _ _ ?_
          refine W.ret ?_
          try dsimp only [thenQ, blockQ, retQ]
          first | refine ⟨_, ⟨_, _, rfl, rfl, rfl⟩, ?_⟩ | (refine retD_mark ?_; intro w H; refine ⟨_, ⟨_, _, rfl, rfl, rfl⟩, ?_⟩) | (refine retD_mark2 ?_; intro w H; refine ⟨_, ⟨_, _, rfl, rfl, rfl⟩, ?_⟩)
          unfold doC doS
          first
          | (rw [if_pos h0, if_pos h0]; exact ⟨rfl, Holds.to (by assumption)⟩)
          | (rw [if_neg h0, if_neg h0, if_pos h1, if_pos h1]; exact ⟨rfl, Holds.to (by assumption)⟩)
          | (rename_i h4
             have h2' : c.f_Kind = 2 := h4
             rw [if_neg h0, if_neg h0, if_neg h1, if_neg h1, if_pos h2', if_pos h2']; rw [decide_eq_true h2'] at H; rw [decide_eq_true h2']; exact ⟨rfl, Holds.to (by assumption)⟩)
          | (rename_i h4
             have h2' : ¬ c.f_Kind = 2 := h4
             have h3' : c.f_Kind = 3 := h2
             rw [if_neg h0, if_neg h0, if_neg h1, if_neg h1, if_neg h2', if_neg h2', if_pos h3', if_pos h3']; rw [decide_eq_false h2'] at H; rw [decide_eq_false h2']; exact ⟨rfl, Holds.to (by assumption)⟩)
          | (rename_i h4; exact absurd h4 h2)
          | (rename_i h4
             have h2' : ¬ c.f_Kind = 2 := h4
             have h3' : ¬ c.f_Kind = 3 := h2
             rw [if_neg h0, if_neg h0, if_neg h1, if_neg h1, if_neg h2', if_neg h2', if_neg h3', if_neg h3']; exact ⟨rfl, Holds.to (by assumption)⟩)
        · refine W.skip ?_
          refine hK1 _ _ _ ?_
          refine W.seq (fun K10 hK10 => ?_)
          refine W.region ?_
          refine O.ex (Ex.move rfl) rfl ?_
          refine O.ex (by first | exact Ex.field0 fld68_1 rfl | exact Ex.field fld68_1 rfl | exact Ex.fieldS fld68_1 rfl | exact Ex.fieldIn fld68_1 rfl) rfl ?_
          refine O.ex (by first | exact Ex.loadRT Try.isAgg3 rfl | exact Ex.loadRA Try.isAgg3 rfl | exact Ex.loadRN Try.isAgg3 rfl | exact Ex.loadRM Try.isAgg3 rfl | exact Ex.loadMh Try.isAgg3 rfl | exact Ex.loadInF Try.isAgg3 rfl (Holds.to (by assumption)) | exact Ex.loadP Try.isAgg3 rfl | exact Ex.loadM Try.isAgg3 rfl | exact Ex.loadIn1 Try.isAgg3 rfl (Holds.to (by assumption)) | exact Ex.loadVc Try.isAgg3 rfl | exact Ex.loadR Try.isAgg3 rfl | exact Ex.loadQ Try.isAgg3 rfl) rfl ?_
          refine O.ex (by first | exact Ex.field0 fld68_2 rfl | exact Ex.field fld68_2 rfl | exact Ex.fieldS fld68_2 rfl | exact Ex.fieldIn fld68_2 rfl) rfl ?_
          refine O.ex (by first | exact Ex.field0 fld42_2 rfl | exact Ex.field fld42_2 rfl | exact Ex.fieldS fld42_2 rfl | exact Ex.fieldIn fld42_2 rfl) rfl ?_
          refine O.ex (by first | exact Ex.loadRT Try.isAgg3 rfl | exact Ex.loadRA Try.isAgg3 rfl | exact Ex.loadRN Try.isAgg3 rfl | exact Ex.loadRM Try.isAgg3 rfl | exact Ex.loadMh Try.isAgg3 rfl | exact Ex.loadInF Try.isAgg3 rfl (Holds.to (by assumption)) | exact Ex.loadP Try.isAgg3 rfl | exact Ex.loadM Try.isAgg3 rfl | exact Ex.loadIn1 Try.isAgg3 rfl (Holds.to (by assumption)) | exact Ex.loadVc Try.isAgg3 rfl | exact Ex.loadR Try.isAgg3 rfl | exact Ex.loadQ Try.isAgg3 rfl) rfl ?_
          refine O.callF Try.call65 rfl rfl (CT.mono (rweigh_ct (v := c.a.w) (Holds.to (by assumption))) ?_)
          rintro _ w ⟨rfl, H⟩
          refine O.ex (Ex.assign rfl) rfl ?_
          refine O.nil ?_
          refine hK10 _ _ _ ?_
          refine W.ret ?_
          try dsimp only [thenQ, blockQ, retQ]
          first | refine ⟨_, ⟨_, _, rfl, rfl, rfl⟩, ?_⟩ | (refine retD_mark ?_; intro w H; refine ⟨_, ⟨_, _, rfl, rfl, rfl⟩, ?_⟩) | (refine retD_mark2 ?_; intro w H; refine ⟨_, ⟨_, _, rfl, rfl, rfl⟩, ?_⟩)
          unfold doC doS
          first
          | (rw [if_pos h0, if_pos h0]; exact ⟨rfl, Holds.to (by assumption)⟩)
          | (rw [if_neg h0, if_neg h0, if_pos h1, if_pos h1]; exact ⟨rfl, Holds.to (by assumption)⟩)
          | (rename_i h4
             have h2' : c.f_Kind = 2 := h4
             rw [if_neg h0, if_neg h0, if_neg h1, if_neg h1, if_pos h2', if_pos h2']; rw [decide_eq_true h2'] at H; rw [decide_eq_true h2']; exact ⟨rfl, Holds.to (by assumption)⟩)
          | (rename_i h4
             have h2' : ¬ c.f_Kind = 2 := h4
             have h3' : c.f_Kind = 3 := h2
             rw [if_neg h0, if_neg h0, if_neg h1, if_neg h1, if_neg h2', if_neg h2', if_pos h3', if_pos h3']; rw [decide_eq_false h2'] at H; rw [decide_eq_false h2']; exact ⟨rfl, Holds.to (by assumption)⟩)
          | (rename_i h4; exact absurd h4 h2)
          | (rename_i h4
             have h2' : ¬ c.f_Kind = 2 := h4
             have h3' : ¬ c.f_Kind = 3 := h2
             rw [if_neg h0, if_neg h0, if_neg h1, if_neg h1, if_neg h2', if_neg h2', if_neg h3', if_neg h3']; exact ⟨rfl, Holds.to (by assumption)⟩)
      · refine W.region ?_
        refine O.ex (Ex.eqlI rfl rfl) rfl ?_
        refine O.ex (Ex.assign rfl) rfl ?_
        refine O.nil ?_
        refine hK7 _ _ _ ?_
        first | refine W.cond_p rfl (fun h2 => ?_) (fun h2 => ?_) | refine W.cond_b rfl (fun h2 => ?_) (fun h2 => ?_)
        · refine W.seq (fun K11 hK11 => ?_)
          refine W.region ?_
          refine O.ex (Ex.move rfl) rfl ?_
          refine O.ex (by first | exact Ex.field0 fld68_1 rfl | exact Ex.field fld68_1 rfl | exact Ex.fieldS fld68_1 rfl | exact Ex.fieldIn fld68_1 rfl) rfl ?_
          refine O.ex (by first | exact Ex.loadRT Try.isAgg3 rfl | exact Ex.loadRA Try.isAgg3 rfl | exact Ex.loadRN Try.isAgg3 rfl | exact Ex.loadRM Try.isAgg3 rfl | exact Ex.loadMh Try.isAgg3 rfl | exact Ex.loadInF Try.isAgg3 rfl (Holds.to (by assumption)) | exact Ex.loadP Try.isAgg3 rfl | exact Ex.loadM Try.isAgg3 rfl | exact Ex.loadIn1 Try.isAgg3 rfl (Holds.to (by assumption)) | exact Ex.loadVc Try.isAgg3 rfl | exact Ex.loadR Try.isAgg3 rfl | exact Ex.loadQ Try.isAgg3 rfl) rfl ?_
          refine O.ex (by first | exact Ex.field0 fld68_0 rfl | exact Ex.field fld68_0 rfl | exact Ex.fieldS fld68_0 rfl | exact Ex.fieldIn fld68_0 rfl) rfl ?_
          refine O.ex (by first | exact Ex.loadRT Try.isAgg3 rfl | exact Ex.loadRA Try.isAgg3 rfl | exact Ex.loadRN Try.isAgg3 rfl | exact Ex.loadRM Try.isAgg3 rfl | exact Ex.loadMh Try.isAgg3 rfl | exact Ex.loadInF Try.isAgg3 rfl (Holds.to (by assumption)) | exact Ex.loadP Try.isAgg3 rfl | exact Ex.loadM Try.isAgg3 rfl | exact Ex.loadIn1 Try.isAgg3 rfl (Holds.to (by assumption)) | exact Ex.loadVc Try.isAgg3 rfl | exact Ex.loadR Try.isAgg3 rfl | exact Ex.loadQ Try.isAgg3 rfl) rfl ?_
          refine O.ex (Ex.eqlI rfl rfl) rfl ?_
          refine O.callF Try.call64 rfl rfl (CT.mono (rturn_ct (Holds.to (by assumption))) ?_)
          rintro _ w ⟨rfl, H⟩
          refine O.ex (Ex.assign rfl) rfl ?_
          refine O.nil ?_
          refine hK11 _ _ _ ?_
          refine W.ret ?_
          try dsimp only [thenQ, blockQ, retQ]
          first | refine ⟨_, ⟨_, _, rfl, rfl, rfl⟩, ?_⟩ | (refine retD_mark ?_; intro w H; refine ⟨_, ⟨_, _, rfl, rfl, rfl⟩, ?_⟩) | (refine retD_mark2 ?_; intro w H; refine ⟨_, ⟨_, _, rfl, rfl, rfl⟩, ?_⟩)
          unfold doC doS
          first
          | (rw [if_pos h0, if_pos h0]; exact ⟨rfl, Holds.to (by assumption)⟩)
          | (rw [if_neg h0, if_neg h0, if_pos h1, if_pos h1]; exact ⟨rfl, Holds.to (by assumption)⟩)
          | (rename_i h4
             have h2' : c.f_Kind = 2 := h4
             rw [if_neg h0, if_neg h0, if_neg h1, if_neg h1, if_pos h2', if_pos h2']; rw [decide_eq_true h2'] at H; rw [decide_eq_true h2']; exact ⟨rfl, Holds.to (by assumption)⟩)
          | (rename_i h4
             have h2' : ¬ c.f_Kind = 2 := h4
             have h3' : c.f_Kind = 3 := h2
             rw [if_neg h0, if_neg h0, if_neg h1, if_neg h1, if_neg h2', if_neg h2', if_pos h3', if_pos h3']; rw [decide_eq_false h2'] at H; rw [decide_eq_false h2']; exact ⟨rfl, Holds.to (by assumption)⟩)
          | (rename_i h4; exact absurd h4 h2)
          | (rename_i h4
             have h2' : ¬ c.f_Kind = 2 := h4
             have h3' : ¬ c.f_Kind = 3 := h2
             rw [if_neg h0, if_neg h0, if_neg h1, if_neg h1, if_neg h2', if_neg h2', if_neg h3', if_neg h3']; exact ⟨rfl, Holds.to (by assumption)⟩)
        · refine W.skip ?_
          refine hK1 _ _ _ ?_
          refine W.seq (fun K12 hK12 => ?_)
          refine W.region ?_
          refine O.ex (Ex.move rfl) rfl ?_
          refine O.ex (by first | exact Ex.field0 fld68_1 rfl | exact Ex.field fld68_1 rfl | exact Ex.fieldS fld68_1 rfl | exact Ex.fieldIn fld68_1 rfl) rfl ?_
          refine O.ex (by first | exact Ex.loadRT Try.isAgg3 rfl | exact Ex.loadRA Try.isAgg3 rfl | exact Ex.loadRN Try.isAgg3 rfl | exact Ex.loadRM Try.isAgg3 rfl | exact Ex.loadMh Try.isAgg3 rfl | exact Ex.loadInF Try.isAgg3 rfl (Holds.to (by assumption)) | exact Ex.loadP Try.isAgg3 rfl | exact Ex.loadM Try.isAgg3 rfl | exact Ex.loadIn1 Try.isAgg3 rfl (Holds.to (by assumption)) | exact Ex.loadVc Try.isAgg3 rfl | exact Ex.loadR Try.isAgg3 rfl | exact Ex.loadQ Try.isAgg3 rfl) rfl ?_
          refine O.ex (by first | exact Ex.field0 fld68_2 rfl | exact Ex.field fld68_2 rfl | exact Ex.fieldS fld68_2 rfl | exact Ex.fieldIn fld68_2 rfl) rfl ?_
          refine O.ex (by first | exact Ex.field0 fld42_2 rfl | exact Ex.field fld42_2 rfl | exact Ex.fieldS fld42_2 rfl | exact Ex.fieldIn fld42_2 rfl) rfl ?_
          refine O.ex (by first | exact Ex.loadRT Try.isAgg3 rfl | exact Ex.loadRA Try.isAgg3 rfl | exact Ex.loadRN Try.isAgg3 rfl | exact Ex.loadRM Try.isAgg3 rfl | exact Ex.loadMh Try.isAgg3 rfl | exact Ex.loadInF Try.isAgg3 rfl (Holds.to (by assumption)) | exact Ex.loadP Try.isAgg3 rfl | exact Ex.loadM Try.isAgg3 rfl | exact Ex.loadIn1 Try.isAgg3 rfl (Holds.to (by assumption)) | exact Ex.loadVc Try.isAgg3 rfl | exact Ex.loadR Try.isAgg3 rfl | exact Ex.loadQ Try.isAgg3 rfl) rfl ?_
          refine O.callF Try.call65 rfl rfl (CT.mono (rweigh_ct (v := c.a.w) (Holds.to (by assumption))) ?_)
          rintro _ w ⟨rfl, H⟩
          refine O.ex (Ex.assign rfl) rfl ?_
          refine O.nil ?_
          refine hK12 _ _ _ ?_
          refine W.ret ?_
          try dsimp only [thenQ, blockQ, retQ]
          first | refine ⟨_, ⟨_, _, rfl, rfl, rfl⟩, ?_⟩ | (refine retD_mark ?_; intro w H; refine ⟨_, ⟨_, _, rfl, rfl, rfl⟩, ?_⟩) | (refine retD_mark2 ?_; intro w H; refine ⟨_, ⟨_, _, rfl, rfl, rfl⟩, ?_⟩)
          unfold doC doS
          first
          | (rw [if_pos h0, if_pos h0]; exact ⟨rfl, Holds.to (by assumption)⟩)
          | (rw [if_neg h0, if_neg h0, if_pos h1, if_pos h1]; exact ⟨rfl, Holds.to (by assumption)⟩)
          | (rename_i h4
             have h2' : c.f_Kind = 2 := h4
             rw [if_neg h0, if_neg h0, if_neg h1, if_neg h1, if_pos h2', if_pos h2']; rw [decide_eq_true h2'] at H; rw [decide_eq_true h2']; exact ⟨rfl, Holds.to (by assumption)⟩)
          | (rename_i h4
             have h2' : ¬ c.f_Kind = 2 := h4
             have h3' : c.f_Kind = 3 := h2
             rw [if_neg h0, if_neg h0, if_neg h1, if_neg h1, if_neg h2', if_neg h2', if_pos h3', if_pos h3']; rw [decide_eq_false h2'] at H; rw [decide_eq_false h2']; exact ⟨rfl, Holds.to (by assumption)⟩)
          | (rename_i h4; exact absurd h4 h2)
          | (rename_i h4
             have h2' : ¬ c.f_Kind = 2 := h4
             have h3' : ¬ c.f_Kind = 3 := h2
             rw [if_neg h0, if_neg h0, if_neg h1, if_neg h1, if_neg h2', if_neg h2', if_neg h3', if_neg h3']; exact ⟨rfl, Holds.to (by assumption)⟩)
end Go.Proofs.Ytliofdfhimmjmaa
