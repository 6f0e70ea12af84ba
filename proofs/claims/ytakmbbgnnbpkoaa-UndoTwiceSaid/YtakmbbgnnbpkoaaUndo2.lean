import Derived.Test.YtakmbbgnnbpkoaaUndo
--ARR
--DEEP
namespace Go.Proofs.Ytakmbbgnnbpkoaa
open Go.Rr Go Gr
set_option linter.unusedVariables false
set_option linter.unusedSimpArgs false
def doF (k : Int) : Value := if k = 1 then .func (.func 121) #[] #[] else if k = 2 then .func (.func 123) #[] #[] else if k = 3 then .func (.func 125) #[] #[] else if k = 4 then .func (.func 127) #[] #[] else if k = 5 then .func (.func 129) #[] #[] else .nilFunc
def unF (k : Int) : Value := if k = 1 then .func (.func 122) #[] #[] else if k = 2 then .func (.func 124) #[] #[] else if k = 3 then .func (.func 126) #[] #[] else if k = 4 then .func (.func 128) #[] #[] else if k = 5 then .func (.func 131) #[] #[] else .nilFunc
theorem doF_one (k : Int) : (doF k).oneCell' = true := by unfold doF; (repeat' split) <;> rfl
theorem unF_one (k : Int) : (unF k).oneCell' = true := by unfold unF; (repeat' split) <;> rfl
/-- What an operation answers, and leaves; what undoes it. -/
def opC (n most : Int) (s : St) (op : OpM) : Int := if op.f_Kind = 1 then insC n most s op.f_A op.ar else if op.f_Kind = 2 then thC s op.f_A else if op.f_Kind = 3 then turnC s op.f_A true else if op.f_Kind = 4 then turnC s op.f_A false else if op.f_Kind = 5 then weighC s op.f_A op.oW else 1
def opS (n most : Int) (s : St) (op : OpM) : St := if op.f_Kind = 1 then insS n most s op.f_A op.ar else if op.f_Kind = 2 then delS s op.f_A else if op.f_Kind = 3 then turnS s op.f_A true else if op.f_Kind = 4 then turnS s op.f_A false else if op.f_Kind = 5 then weighS s op.f_A op.oW else s
def unS (n most : Int) (s : St) (op : OpM) (was : Arc) : St := if op.f_Kind = 1 then delS s op.f_A else if op.f_Kind = 2 then insS n most s op.f_A was else if op.f_Kind = 3 then turnS s op.f_A false else if op.f_Kind = 4 then turnS s op.f_A true else if op.f_Kind = 5 then weighS s op.f_A was.w else s
abbrev isCh (op : OpM) : Prop := 1 ≤ op.f_Kind ∧ op.f_Kind ≤ 5
theorem ok_op {n most : Int} {s : St} (h : GOk n most s) (op : OpM) : GOk n most (opS n most s op) := by
  unfold opS
  (repeat' split)
  · exact ok_ins h _ _
  · exact ok_del h _
  · exact ok_turn h _ _
  · exact ok_turn h _ _
  · exact ok_weigh h _ _
  · exact h
theorem ok_un {n most : Int} {s : St} (h : GOk n most s) (op : OpM) (was : Arc) : GOk n most (unS n most s op was) := by
  unfold unS
  (repeat' split)
  · exact ok_del h _
  · exact ok_ins h _ _
  · exact ok_turn h _ _
  · exact ok_turn h _ _
  · exact ok_weigh h _ _
  · exact h
section
variable {w : World} {g : Nat} {n most : Int} {s : St} {op : OpM} {was : Arc} {L : List HProp}
theorem vtDo (hg : GOk n most s) (h0 : 0 ≤ op.f_W) (hc : isCh op) (H : Holds w (Gh g n most s :: L)) :
    VT Try.prog (doF op.f_Kind) [.pointer (some ⟨g, 0, none⟩), op.val] w fun u w' => u = .int .i64 (opC n most s op) ∧ Holds w' (Gh g n most (opS n most s op) :: L) := by
  have : op.f_Kind = 1 ∨ op.f_Kind = 2 ∨ op.f_Kind = 3 ∨ op.f_Kind = 4 ∨ op.f_Kind = 5 := by omega
  unfold doF opC opS
  rcases this with h | h | h | h | h <;> simp only [h] <;> simp only [if_true, if_false, Int.reduceEq, reduceIte]
  · exact VT.fn Try.call121 (of1_ct hg h0 H)
  · exact VT.fn Try.call123 (of3_ct hg H)
  · exact VT.fn Try.call125 (of5_ct H)
  · exact VT.fn Try.call127 (of7_ct H)
  · exact VT.fn Try.call129 (of9_ct h0 H)
theorem vtUn (hg : GOk n most s) (hc : isCh op) (H : Holds w (Gh g n most s :: L)) :
    VT Try.prog (unF op.f_Kind) [.pointer (some ⟨g, 0, none⟩), op.val, was.val] w fun u w' => Holds w' (Gh g n most (unS n most s op was) :: L) := by
  have : op.f_Kind = 1 ∨ op.f_Kind = 2 ∨ op.f_Kind = 3 ∨ op.f_Kind = 4 ∨ op.f_Kind = 5 := by omega
  unfold unF unS
  rcases this with h | h | h | h | h <;> simp only [h] <;> simp only [if_true, if_false, Int.reduceEq, reduceIte]
  · exact VT.fn Try.call122 (of2_ct hg H)
  · exact VT.fn Try.call124 (of4_ct hg H)
  · exact VT.fn Try.call126 (of6_ct H)
  · exact VT.fn Try.call128 (of8_ct H)
  · exact VT.fn Try.call131 (of10_ct H)
end
theorem of_ct {w : World} {op : OpM} {L : List HProp} (H : Holds w L) : CT Try.prog 97 [op.val] w fun u w' => u = .tuple #[.agg #[doF op.f_Kind, unF op.f_Kind], .bool (decide (isCh op))] ∧ Holds w' L := by
  refine CT.enter (N := 22) Try.func97 rfl rfl rfl rfl ?_
  refine W.seq (fun K0 hK0 => ?_)
  refine W.region ?_
  refine O.boxP rfl (fun b1 w H => ?_)
  have H : Holds w (pt b1 (.cells op.cs 91 (0, 0)) :: L) := H
  refine O.allocP Try.zeroValue151 (fun b2 w H => ?_)
  have H : Holds w (pt b2 (.cells #[.nilFunc, .nilFunc] 151 (0, 0)) :: pt b1 (.cells op.cs 91 (0, 0)) :: L) := H
  refine O.ex (Ex.assign rfl) rfl ?_
  refine O.nil ?_
  refine hK0 _ _ _ ?_
  refine W.seq (fun K1 hK1 => ?_)
  refine W.seq (fun K2 hK2 => ?_)
  refine W.region ?_
  refine O.ex (by first | exact Ex.field0 fld91_0 rfl | exact Ex.field fld91_0 rfl | exact Ex.fieldS fld91_0 rfl) rfl ?_
  refine O.ex (by first | exact Ex.loadMh Try.isAgg3 rfl | exact Ex.loadP Try.isAgg3 rfl | exact Ex.loadM Try.isAgg3 rfl | exact Ex.loadIn1 Try.isAgg3 rfl (Holds.to (by assumption)) | exact Ex.loadVc Try.isAgg3 rfl | exact Ex.loadR Try.isAgg3 rfl | exact Ex.loadQ Try.isAgg3 rfl) rfl ?_
  refine O.nil ?_
  refine hK2 _ _ _ ?_
  refine W.block ?_
  refine W.seq (fun K3 hK3 => ?_)
  refine W.region ?_
  refine O.ex (Ex.eqlI rfl rfl) rfl ?_
  refine O.ex (Ex.assign rfl) rfl ?_
  refine O.nil ?_
  refine hK3 _ _ _ ?_
  first | refine W.cond_p rfl (fun h1 => ?_) (fun h1 => ?_) | refine W.cond_b rfl (fun h1 => ?_) (fun h1 => ?_)
  · refine W.seq (fun K4 hK4 => ?_)
    refine W.region ?_
    refine O.ex (Ex.build rfl (bld151_0_1 _ _ (by first | rfl | assumption) (by first | rfl | assumption))) rfl ?_
    first | refine O.storeAggP Try.sizeOf151 rfl rfl rfl rfl (fun w H => ?_) | refine O.storeAggN Try.sizeOf151 rfl rfl rfl (fun w H => ?_) rfl
    refine O.ex (Ex.assign rfl) rfl ?_
    refine O.nil ?_
    refine hK4 _ _ _ ?_
    refine W.ret ?_
    try dsimp only [thenQ, blockQ, retQ]
    first | refine ⟨_, ⟨_, _, _, rfl, rfl, (by first | exact loadVar_mtx Try.isAgg151 Try.sizeOf151 | exact loadVar_agg Try.isAgg151 Try.sizeOf151), _, _, rfl, rfl, rfl⟩, ?_⟩ | (refine retD_mark ?_; intro w H; refine ⟨_, ⟨_, _, _, rfl, rfl, (by first | exact loadVar_mtx Try.isAgg151 Try.sizeOf151 | exact loadVar_agg Try.isAgg151 Try.sizeOf151), _, _, rfl, rfl, rfl⟩, ?_⟩) | (refine retD_mark2 ?_; intro w H; refine ⟨_, ⟨_, _, _, rfl, rfl, (by first | exact loadVar_mtx Try.isAgg151 Try.sizeOf151 | exact loadVar_agg Try.isAgg151 Try.sizeOf151), _, _, rfl, rfl, rfl⟩, ?_⟩)
    refine ⟨?_, Holds.to (by assumption)⟩
    first
    | (have h1' : op.f_Kind = 1 := h1
       unfold doF unF; rw [if_pos h1', if_pos h1', decide_eq_true ⟨by omega, by omega⟩]; rfl)
    | (have h2' : op.f_Kind = 2 := h2
       unfold doF unF; rw [if_neg h1, if_neg h1, if_pos h2', if_pos h2', decide_eq_true ⟨by omega, by omega⟩]; rfl)
    | (have h3' : op.f_Kind = 3 := h3
       unfold doF unF; rw [if_neg h1, if_neg h1, if_neg h2, if_neg h2, if_pos h3', if_pos h3', decide_eq_true ⟨by omega, by omega⟩]; rfl)
    | (have h4' : op.f_Kind = 4 := h4
       unfold doF unF; rw [if_neg h1, if_neg h1, if_neg h2, if_neg h2, if_neg h3, if_neg h3, if_pos h4', if_pos h4', decide_eq_true ⟨by omega, by omega⟩]; rfl)
    | (have h5' : op.f_Kind = 5 := h5
       unfold doF unF; rw [if_neg h1, if_neg h1, if_neg h2, if_neg h2, if_neg h3, if_neg h3, if_neg h4, if_neg h4, if_pos h5', if_pos h5', decide_eq_true ⟨by omega, by omega⟩]; rfl)
    | (have h5' : ¬ op.f_Kind = 5 := h5
       unfold doF unF; rw [if_neg h1, if_neg h1, if_neg h2, if_neg h2, if_neg h3, if_neg h3, if_neg h4, if_neg h4, if_neg h5', if_neg h5', decide_eq_false (by omega)]; rfl)
  · refine W.seq (fun K5 hK5 => ?_)
    refine W.region ?_
    refine O.ex (Ex.eqlI rfl rfl) rfl ?_
    refine O.ex (Ex.assign rfl) rfl ?_
    refine O.nil ?_
    refine hK5 _ _ _ ?_
    first | refine W.cond_p rfl (fun h2 => ?_) (fun h2 => ?_) | refine W.cond_b rfl (fun h2 => ?_) (fun h2 => ?_)
    · refine W.seq (fun K6 hK6 => ?_)
      refine W.region ?_
      refine O.ex (Ex.build rfl (bld151_0_1 _ _ (by first | rfl | assumption) (by first | rfl | assumption))) rfl ?_
      first | refine O.storeAggP Try.sizeOf151 rfl rfl rfl rfl (fun w H => ?_) | refine O.storeAggN Try.sizeOf151 rfl rfl rfl (fun w H => ?_) rfl
      refine O.ex (Ex.assign rfl) rfl ?_
      refine O.nil ?_
      refine hK6 _ _ _ ?_
      refine W.ret ?_
      try dsimp only [thenQ, blockQ, retQ]
      first | refine ⟨_, ⟨_, _, _, rfl, rfl, (by first | exact loadVar_mtx Try.isAgg151 Try.sizeOf151 | exact loadVar_agg Try.isAgg151 Try.sizeOf151), _, _, rfl, rfl, rfl⟩, ?_⟩ | (refine retD_mark ?_; intro w H; refine ⟨_, ⟨_, _, _, rfl, rfl, (by first | exact loadVar_mtx Try.isAgg151 Try.sizeOf151 | exact loadVar_agg Try.isAgg151 Try.sizeOf151), _, _, rfl, rfl, rfl⟩, ?_⟩) | (refine retD_mark2 ?_; intro w H; refine ⟨_, ⟨_, _, _, rfl, rfl, (by first | exact loadVar_mtx Try.isAgg151 Try.sizeOf151 | exact loadVar_agg Try.isAgg151 Try.sizeOf151), _, _, rfl, rfl, rfl⟩, ?_⟩)
      refine ⟨?_, Holds.to (by assumption)⟩
      first
      | (have h1' : op.f_Kind = 1 := h1
         unfold doF unF; rw [if_pos h1', if_pos h1', decide_eq_true ⟨by omega, by omega⟩]; rfl)
      | (have h2' : op.f_Kind = 2 := h2
         unfold doF unF; rw [if_neg h1, if_neg h1, if_pos h2', if_pos h2', decide_eq_true ⟨by omega, by omega⟩]; rfl)
      | (have h3' : op.f_Kind = 3 := h3
         unfold doF unF; rw [if_neg h1, if_neg h1, if_neg h2, if_neg h2, if_pos h3', if_pos h3', decide_eq_true ⟨by omega, by omega⟩]; rfl)
      | (have h4' : op.f_Kind = 4 := h4
         unfold doF unF; rw [if_neg h1, if_neg h1, if_neg h2, if_neg h2, if_neg h3, if_neg h3, if_pos h4', if_pos h4', decide_eq_true ⟨by omega, by omega⟩]; rfl)
      | (have h5' : op.f_Kind = 5 := h5
         unfold doF unF; rw [if_neg h1, if_neg h1, if_neg h2, if_neg h2, if_neg h3, if_neg h3, if_neg h4, if_neg h4, if_pos h5', if_pos h5', decide_eq_true ⟨by omega, by omega⟩]; rfl)
      | (have h5' : ¬ op.f_Kind = 5 := h5
         unfold doF unF; rw [if_neg h1, if_neg h1, if_neg h2, if_neg h2, if_neg h3, if_neg h3, if_neg h4, if_neg h4, if_neg h5', if_neg h5', decide_eq_false (by omega)]; rfl)
    · refine W.seq (fun K7 hK7 => ?_)
      refine W.region ?_
      refine O.ex (Ex.eqlI rfl rfl) rfl ?_
      refine O.ex (Ex.assign rfl) rfl ?_
      refine O.nil ?_
      refine hK7 _ _ _ ?_
      first | refine W.cond_p rfl (fun h3 => ?_) (fun h3 => ?_) | refine W.cond_b rfl (fun h3 => ?_) (fun h3 => ?_)
      · refine W.seq (fun K8 hK8 => ?_)
        refine W.region ?_
        refine O.ex (Ex.build rfl (bld151_0_1 _ _ (by first | rfl | assumption) (by first | rfl | assumption))) rfl ?_
        first | refine O.storeAggP Try.sizeOf151 rfl rfl rfl rfl (fun w H => ?_) | refine O.storeAggN Try.sizeOf151 rfl rfl rfl (fun w H => ?_) rfl
        refine O.ex (Ex.assign rfl) rfl ?_
        refine O.nil ?_
        refine hK8 _ _ _ ?_
        refine W.ret ?_
        try dsimp only [thenQ, blockQ, retQ]
        first | refine ⟨_, ⟨_, _, _, rfl, rfl, (by first | exact loadVar_mtx Try.isAgg151 Try.sizeOf151 | exact loadVar_agg Try.isAgg151 Try.sizeOf151), _, _, rfl, rfl, rfl⟩, ?_⟩ | (refine retD_mark ?_; intro w H; refine ⟨_, ⟨_, _, _, rfl, rfl, (by first | exact loadVar_mtx Try.isAgg151 Try.sizeOf151 | exact loadVar_agg Try.isAgg151 Try.sizeOf151), _, _, rfl, rfl, rfl⟩, ?_⟩) | (refine retD_mark2 ?_; intro w H; refine ⟨_, ⟨_, _, _, rfl, rfl, (by first | exact loadVar_mtx Try.isAgg151 Try.sizeOf151 | exact loadVar_agg Try.isAgg151 Try.sizeOf151), _, _, rfl, rfl, rfl⟩, ?_⟩)
        refine ⟨?_, Holds.to (by assumption)⟩
        first
        | (have h1' : op.f_Kind = 1 := h1
           unfold doF unF; rw [if_pos h1', if_pos h1', decide_eq_true ⟨by omega, by omega⟩]; rfl)
        | (have h2' : op.f_Kind = 2 := h2
           unfold doF unF; rw [if_neg h1, if_neg h1, if_pos h2', if_pos h2', decide_eq_true ⟨by omega, by omega⟩]; rfl)
        | (have h3' : op.f_Kind = 3 := h3
           unfold doF unF; rw [if_neg h1, if_neg h1, if_neg h2, if_neg h2, if_pos h3', if_pos h3', decide_eq_true ⟨by omega, by omega⟩]; rfl)
        | (have h4' : op.f_Kind = 4 := h4
           unfold doF unF; rw [if_neg h1, if_neg h1, if_neg h2, if_neg h2, if_neg h3, if_neg h3, if_pos h4', if_pos h4', decide_eq_true ⟨by omega, by omega⟩]; rfl)
        | (have h5' : op.f_Kind = 5 := h5
           unfold doF unF; rw [if_neg h1, if_neg h1, if_neg h2, if_neg h2, if_neg h3, if_neg h3, if_neg h4, if_neg h4, if_pos h5', if_pos h5', decide_eq_true ⟨by omega, by omega⟩]; rfl)
        | (have h5' : ¬ op.f_Kind = 5 := h5
           unfold doF unF; rw [if_neg h1, if_neg h1, if_neg h2, if_neg h2, if_neg h3, if_neg h3, if_neg h4, if_neg h4, if_neg h5', if_neg h5', decide_eq_false (by omega)]; rfl)
      · refine W.seq (fun K9 hK9 => ?_)
        refine W.region ?_
        refine O.ex (Ex.eqlI rfl rfl) rfl ?_
        refine O.ex (Ex.assign rfl) rfl ?_
        refine O.nil ?_
        refine hK9 _ _ _ ?_
        first | refine W.cond_p rfl (fun h4 => ?_) (fun h4 => ?_) | refine W.cond_b rfl (fun h4 => ?_) (fun h4 => ?_)
        · refine W.seq (fun K10 hK10 => ?_)
          refine W.region ?_
          refine O.ex (Ex.build rfl (bld151_0_1 _ _ (by first | rfl | assumption) (by first | rfl | assumption))) rfl ?_
          first | refine O.storeAggP Try.sizeOf151 rfl rfl rfl rfl (fun w H => ?_) | refine O.storeAggN Try.sizeOf151 rfl rfl rfl (fun w H => ?_) rfl
          refine O.ex (Ex.assign rfl) rfl ?_
          refine O.nil ?_
          refine hK10 _ _ _ ?_
          refine W.ret ?_
          try dsimp only [thenQ, blockQ, retQ]
          first | refine ⟨_, ⟨_, _, _, rfl, rfl, (by first | exact loadVar_mtx Try.isAgg151 Try.sizeOf151 | exact loadVar_agg Try.isAgg151 Try.sizeOf151), _, _, rfl, rfl, rfl⟩, ?_⟩ | (refine retD_mark ?_; intro w H; refine ⟨_, ⟨_, _, _, rfl, rfl, (by first | exact loadVar_mtx Try.isAgg151 Try.sizeOf151 | exact loadVar_agg Try.isAgg151 Try.sizeOf151), _, _, rfl, rfl, rfl⟩, ?_⟩) | (refine retD_mark2 ?_; intro w H; refine ⟨_, ⟨_, _, _, rfl, rfl, (by first | exact loadVar_mtx Try.isAgg151 Try.sizeOf151 | exact loadVar_agg Try.isAgg151 Try.sizeOf151), _, _, rfl, rfl, rfl⟩, ?_⟩)
          refine ⟨?_, Holds.to (by assumption)⟩
          first
          | (have h1' : op.f_Kind = 1 := h1
             unfold doF unF; rw [if_pos h1', if_pos h1', decide_eq_true ⟨by omega, by omega⟩]; rfl)
          | (have h2' : op.f_Kind = 2 := h2
             unfold doF unF; rw [if_neg h1, if_neg h1, if_pos h2', if_pos h2', decide_eq_true ⟨by omega, by omega⟩]; rfl)
          | (have h3' : op.f_Kind = 3 := h3
             unfold doF unF; rw [if_neg h1, if_neg h1, if_neg h2, if_neg h2, if_pos h3', if_pos h3', decide_eq_true ⟨by omega, by omega⟩]; rfl)
          | (have h4' : op.f_Kind = 4 := h4
             unfold doF unF; rw [if_neg h1, if_neg h1, if_neg h2, if_neg h2, if_neg h3, if_neg h3, if_pos h4', if_pos h4', decide_eq_true ⟨by omega, by omega⟩]; rfl)
          | (have h5' : op.f_Kind = 5 := h5
             unfold doF unF; rw [if_neg h1, if_neg h1, if_neg h2, if_neg h2, if_neg h3, if_neg h3, if_neg h4, if_neg h4, if_pos h5', if_pos h5', decide_eq_true ⟨by omega, by omega⟩]; rfl)
          | (have h5' : ¬ op.f_Kind = 5 := h5
             unfold doF unF; rw [if_neg h1, if_neg h1, if_neg h2, if_neg h2, if_neg h3, if_neg h3, if_neg h4, if_neg h4, if_neg h5', if_neg h5', decide_eq_false (by omega)]; rfl)
        · refine W.seq (fun K11 hK11 => ?_)
          refine W.region ?_
          refine O.ex (Ex.eqlI rfl rfl) rfl ?_
          refine O.ex (Ex.assign rfl) rfl ?_
          refine O.nil ?_
          refine hK11 _ _ _ ?_
          first | refine W.cond_p rfl (fun h5 => ?_) (fun h5 => ?_) | refine W.cond_b rfl (fun h5 => ?_) (fun h5 => ?_)
          · refine W.seq (fun K12 hK12 => ?_)
            refine W.region ?_
            refine O.ex (Ex.build rfl (bld151_0_1 _ _ (by first | rfl | assumption) (by first | rfl | assumption))) rfl ?_
            first | refine O.storeAggP Try.sizeOf151 rfl rfl rfl rfl (fun w H => ?_) | refine O.storeAggN Try.sizeOf151 rfl rfl rfl (fun w H => ?_) rfl
            refine O.ex (Ex.assign rfl) rfl ?_
            refine O.nil ?_
            refine hK12 _ _ _ ?_
            refine W.ret ?_
            try dsimp only [thenQ, blockQ, retQ]
            first | refine ⟨_, ⟨_, _, _, rfl, rfl, (by first | exact loadVar_mtx Try.isAgg151 Try.sizeOf151 | exact loadVar_agg Try.isAgg151 Try.sizeOf151), _, _, rfl, rfl, rfl⟩, ?_⟩ | (refine retD_mark ?_; intro w H; refine ⟨_, ⟨_, _, _, rfl, rfl, (by first | exact loadVar_mtx Try.isAgg151 Try.sizeOf151 | exact loadVar_agg Try.isAgg151 Try.sizeOf151), _, _, rfl, rfl, rfl⟩, ?_⟩) | (refine retD_mark2 ?_; intro w H; refine ⟨_, ⟨_, _, _, rfl, rfl, (by first | exact loadVar_mtx Try.isAgg151 Try.sizeOf151 | exact loadVar_agg Try.isAgg151 Try.sizeOf151), _, _, rfl, rfl, rfl⟩, ?_⟩)
            refine ⟨?_, Holds.to (by assumption)⟩
            first
            | (have h1' : op.f_Kind = 1 := h1
               unfold doF unF; rw [if_pos h1', if_pos h1', decide_eq_true ⟨by omega, by omega⟩]; rfl)
            | (have h2' : op.f_Kind = 2 := h2
               unfold doF unF; rw [if_neg h1, if_neg h1, if_pos h2', if_pos h2', decide_eq_true ⟨by omega, by omega⟩]; rfl)
            | (have h3' : op.f_Kind = 3 := h3
               unfold doF unF; rw [if_neg h1, if_neg h1, if_neg h2, if_neg h2, if_pos h3', if_pos h3', decide_eq_true ⟨by omega, by omega⟩]; rfl)
            | (have h4' : op.f_Kind = 4 := h4
               unfold doF unF; rw [if_neg h1, if_neg h1, if_neg h2, if_neg h2, if_neg h3, if_neg h3, if_pos h4', if_pos h4', decide_eq_true ⟨by omega, by omega⟩]; rfl)
            | (have h5' : op.f_Kind = 5 := h5
               unfold doF unF; rw [if_neg h1, if_neg h1, if_neg h2, if_neg h2, if_neg h3, if_neg h3, if_neg h4, if_neg h4, if_pos h5', if_pos h5', decide_eq_true ⟨by omega, by omega⟩]; rfl)
            | (have h5' : ¬ op.f_Kind = 5 := h5
               unfold doF unF; rw [if_neg h1, if_neg h1, if_neg h2, if_neg h2, if_neg h3, if_neg h3, if_neg h4, if_neg h4, if_neg h5', if_neg h5', decide_eq_false (by omega)]; rfl)
          · refine W.skip ?_
            refine hK1 _ _ _ ?_
            refine W.seq (fun K13 hK13 => ?_)
            refine W.region ?_
            refine O.ex (Ex.build rfl (bld151_  )) rfl ?_
            first | refine O.storeAggP Try.sizeOf151 rfl rfl rfl rfl (fun w H => ?_) | refine O.storeAggN Try.sizeOf151 rfl rfl rfl (fun w H => ?_) rfl
            refine O.ex (Ex.assign rfl) rfl ?_
            refine O.nil ?_
            refine hK13 _ _ _ ?_
            refine W.ret ?_
            try dsimp only [thenQ, blockQ, retQ]
            first | refine ⟨_, ⟨_, _, _, rfl, rfl, (by first | exact loadVar_mtx Try.isAgg151 Try.sizeOf151 | exact loadVar_agg Try.isAgg151 Try.sizeOf151), _, _, rfl, rfl, rfl⟩, ?_⟩ | (refine retD_mark ?_; intro w H; refine ⟨_, ⟨_, _, _, rfl, rfl, (by first | exact loadVar_mtx Try.isAgg151 Try.sizeOf151 | exact loadVar_agg Try.isAgg151 Try.sizeOf151), _, _, rfl, rfl, rfl⟩, ?_⟩) | (refine retD_mark2 ?_; intro w H; refine ⟨_, ⟨_, _, _, rfl, rfl, (by first | exact loadVar_mtx Try.isAgg151 Try.sizeOf151 | exact loadVar_agg Try.isAgg151 Try.sizeOf151), _, _, rfl, rfl, rfl⟩, ?_⟩)
            refine ⟨?_, Holds.to (by assumption)⟩
            first
            | (have h1' : op.f_Kind = 1 := h1
               unfold doF unF; rw [if_pos h1', if_pos h1', decide_eq_true ⟨by omega, by omega⟩]; rfl)
            | (have h2' : op.f_Kind = 2 := h2
               unfold doF unF; rw [if_neg h1, if_neg h1, if_pos h2', if_pos h2', decide_eq_true ⟨by omega, by omega⟩]; rfl)
            | (have h3' : op.f_Kind = 3 := h3
               unfold doF unF; rw [if_neg h1, if_neg h1, if_neg h2, if_neg h2, if_pos h3', if_pos h3', decide_eq_true ⟨by omega, by omega⟩]; rfl)
            | (have h4' : op.f_Kind = 4 := h4
               unfold doF unF; rw [if_neg h1, if_neg h1, if_neg h2, if_neg h2, if_neg h3, if_neg h3, if_pos h4', if_pos h4', decide_eq_true ⟨by omega, by omega⟩]; rfl)
            | (have h5' : op.f_Kind = 5 := h5
               unfold doF unF; rw [if_neg h1, if_neg h1, if_neg h2, if_neg h2, if_neg h3, if_neg h3, if_neg h4, if_neg h4, if_pos h5', if_pos h5', decide_eq_true ⟨by omega, by omega⟩]; rfl)
            | (have h5' : ¬ op.f_Kind = 5 := h5
               unfold doF unF; rw [if_neg h1, if_neg h1, if_neg h2, if_neg h2, if_neg h3, if_neg h3, if_neg h4, if_neg h4, if_neg h5', if_neg h5', decide_eq_false (by omega)]; rfl)
end Go.Proofs.Ytakmbbgnnbpkoaa
