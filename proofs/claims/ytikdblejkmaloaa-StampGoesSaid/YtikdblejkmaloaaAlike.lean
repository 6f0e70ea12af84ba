import Derived.Test.YtikdblejkmaloaaRef05
namespace Go.Proofs.Ytikdblejkmaloaa
open Go.Rr
set_option linter.unusedVariables false
/-- The row and the document's row tell the same. -/
structure Rel (R : RowM Int) (M : RefM) (n : Nat) : Prop where
  lv : R.v.length = n
  lw : R.wh.length = n
  lV : M.V.length = n
  lI : M.Is.length = n
  now0 : 1 ≤ R.now
  now1 : R.now ≤ 255
  wh0 : ∀ i, i < n → 0 ≤ R.wh.getD i 0 ∧ R.wh.getD i 0 ≤ R.now
  is : ∀ i, i < n → (R.wh.getD i 0 = R.now ↔ M.Is.getD i false = true)
  val : ∀ i, i < n → M.Is.getD i false = true → R.v.getD i 0 = M.V.getD i 0
  cnt : R.n = (M.Is.count true : Nat)
theorem Rel.has {R : RowM Int} {M : RefM} {n : Nat} (h : Rel R M n) (k : Int) : R.has k ↔ (0 ≤ k ∧ k < n) ∧ M.Is.getD k.toNat false = true := by
  unfold RowM.has
  rw [h.lv]
  constructor
  · rintro ⟨h1, h2⟩; exact ⟨h1, (h.is _ (by omega)).1 h2⟩
  · rintro ⟨h1, h2⟩; exact ⟨h1, (h.is _ (by omega)).2 h2⟩
theorem Rel.n_le {R : RowM Int} {M : RefM} {n : Nat} (h : Rel R M n) : 0 ≤ R.n ∧ R.n ≤ n := by
  rw [h.cnt]
  have := List.count_le_length (a := true) (l := M.Is)
  rw [h.lI] at this
  omega
theorem Rel.new (n : Nat) : Rel (RowM.new (0 : Int) n) (RefM.new n) n where
  lv := by simp [RowM.new]
  lw := by simp [RowM.new]
  lV := by simp [RefM.new]
  lI := by simp [RefM.new]
  now0 := by simp [RowM.new]
  now1 := by simp [RowM.new]
  wh0 := fun i hi => by simp [RowM.new, List.getD_eq_getElem?_getD, hi]
  is := fun i hi => by simp [RowM.new, RefM.new, List.getD_eq_getElem?_getD, hi]
  val := fun i hi h => by simp [RefM.new, List.getD_eq_getElem?_getD, hi] at h
  cnt := by simp [RowM.new, RefM.new, List.count_replicate]
theorem getD_set {α : Type} (l : List α) (i j : Nat) (x d : α) (h : i < l.length) : (l.set i x).getD j d = if j = i then x else l.getD j d := by
  simp only [List.getD_eq_getElem?_getD, List.getElem?_set]
  by_cases e : i = j
  · subst e; simp [h]
  · simp [e, Ne.symm e]
theorem count_set (l : List Bool) (i : Nat) (h : i < l.length) : (l.set i true).count true = l.count true + if l.getD i false = true then 0 else 1 := by
  induction l generalizing i with
  | nil => simp at h
  | cons b l ih =>
    cases i with
    | zero => cases b <;> simp
    | succ i =>
      have := ih i (by simpa using h)
      simp only [List.set_cons_succ, List.count_cons, List.getD_cons_succ, this]
      omega
theorem Rel.set {R : RowM Int} {M : RefM} {n : Nat} (h : Rel R M n) (i : Int) (x : Int) (h0 : 0 ≤ i) (h1 : i < n) : Rel (R.set i x) (M.set i x) n := by
  have hi : i.toNat < n := by omega
  have e : R.set i x = { v := R.v.set i.toNat x, wh := R.wh.set i.toNat R.now, now := R.now, n := if R.has i then R.n else R.n + 1 } := if_pos ⟨h0, by rw [h.lv]; exact h1⟩
  have hh := h.has i
  constructor
  · rw [e]; simp [h.lv]
  · rw [e]; simp [h.lw]
  · simp [RefM.set, h.lV]
  · simp [RefM.set, h.lI]
  · rw [e]; exact h.now0
  · rw [e]; exact h.now1
  · intro j hj
    rw [e]
    simp only [getD_set _ _ _ _ _ (show i.toNat < R.wh.length by rw [h.lw]; exact hi)]
    have := h.wh0 j hj
    have := h.now0
    split <;> omega
  · intro j hj
    rw [e]
    simp only [RefM.set, getD_set _ _ _ _ _ (show i.toNat < R.wh.length by rw [h.lw]; exact hi), getD_set _ _ _ _ _ (show i.toNat < M.Is.length by rw [h.lI]; exact hi)]
    have := h.is j hj
    split <;> simp_all
  · intro j hj
    rw [e]
    simp only [RefM.set, getD_set _ _ _ _ _ (show i.toNat < R.v.length by rw [h.lv]; exact hi), getD_set _ _ _ _ _ (show i.toNat < M.V.length by rw [h.lV]; exact hi), getD_set _ _ _ _ _ (show i.toNat < M.Is.length by rw [h.lI]; exact hi)]
    have := h.val j hj
    split <;> simp_all
  · rw [e]
    simp only [RefM.set, count_set _ _ (show i.toNat < M.Is.length by rw [h.lI]; exact hi)]
    have := h.cnt
    by_cases hb : R.has i
    · rw [if_pos hb, if_pos (hh.1 hb).2]; omega
    · rw [if_neg hb, if_neg (fun h' => hb (hh.2 ⟨⟨h0, h1⟩, h'⟩))]; omega
theorem Rel.clear {R : RowM Int} {M : RefM} {n : Nat} (h : Rel R M n) : Rel R.clear M.clear n := by
  have hn0 := h.now0
  have hn1 := h.now1
  unfold RowM.clear RefM.clear
  split
  · rename_i e
    constructor <;> simp [h.lv, h.lw, h.lV, List.count_replicate]
    · intro i hi; simp [hi]
    · intro i hi; simp [hi]
    · intro i hi; simp [hi]
  · rename_i e
    constructor <;> simp [h.lv, h.lw, h.lV, List.count_replicate]
    · omega
    · omega
    · intro i hi; have := h.wh0 i hi; simp only [List.getD_eq_getElem?_getD] at this; omega
    · intro i hi; have := h.wh0 i hi; simp only [List.getD_eq_getElem?_getD] at this; simp [hi]; omega
    · intro i hi; simp [hi]

/-- What is told at a place. -/
theorem getM_ct {w : World} {r : Nat} {R : RowM Int} {M : RefM} {n : Nat} {i : Int} {L : List HProp} (H : Holds w (RowI r R :: L)) (h : Rel R M n) :
    CT Try.prog 43 [.pointer (some ⟨r, 0, none⟩), .int .i64 i] w fun u w' =>
      (((0 ≤ i ∧ i < n) ∧ M.Is.getD i.toNat default = true ∧ u = .tuple #[.int .i64 (M.V.getD i.toNat default), .bool true]) ∨ (((0 ≤ i ∧ i < n) → M.Is.getD i.toNat default = false) ∧ u = .tuple #[.int .i64 0, .bool false])) ∧ Holds w' (RowI r R :: L) :=
  (getI_ct H (by rw [h.lv, h.lw])).mono fun u w' ⟨e, H'⟩ => by
    refine ⟨?_, H'⟩
    subst e
    have hh := h.has i
    by_cases hb : R.has i
    · left
      obtain ⟨h1, h2⟩ := hh.1 hb
      refine ⟨h1, h2, ?_⟩
      rw [if_pos hb, decide_eq_true hb]
      congr 3
      have := h.val i.toNat (by omega) h2
      exact congrArg (Value.int .i64) this
    · right
      refine ⟨fun h1 => ?_, by rw [if_neg hb, decide_eq_false hb]⟩
      cases hc : M.Is.getD i.toNat default with
      | false => rfl
      | true => exact absurd (hh.2 ⟨h1, hc⟩) hb

theorem alike_ct {w : World} {r s : Nat} {R : RowM Int} {M : RefM} {n : Nat} {L : List HProp} (H : Holds w (RowI r R :: RefR s M :: L)) (h : Rel R M n) (hn : n ≤ 1000) :
    CT Try.prog 18 [.pointer (some ⟨r, 0, none⟩), .pointer (some ⟨s, 0, none⟩)] w fun u w' => u = .bool true ∧ Holds w' (RowI r R :: RefR s M :: L) := by
  have hlV := h.lV
  have hlI := h.lI
  have hlv := h.lv
  have hlw := h.lw
  refine CT.enter (N := 66) Try.func18 rfl rfl rfl rfl ?_
  refine W.seq (fun K0 hK0 => ?_)
  refine W.region ?_
  refine O.ex (Ex.assign rfl) rfl ?_
  refine O.nil ?_
  refine hK0 _ _ _ ?_
  refine W.seq (fun K1 hK1 => ?_)
  refine W.seq (fun K2 hK2 => ?_)
  refine W.region ?_
  refine O.ex (Ex.assign rfl) rfl ?_
  refine O.nil ?_
  refine hK2 _ _ _ ?_
  refine W.block ?_
  refine W.loop (σ := Int) (fun k => [(0, .pointer (some ⟨r, 0, none⟩)), (1, .pointer (some ⟨s, 0, none⟩)), (5, .int .i64 k)]) (fun k ds w => ds = [] ∧ -1 ≤ k ∧ k ≤ n + 1 ∧ Holds w (RowI r R :: RefR s M :: L)) (fun k => (n + 1 - k).toNat) (-1) ⟨rfl, rfl, rfl, trivial⟩ ⟨rfl, by omega, by omega, H⟩ ?_
  rintro k _ w ⟨rfl, hk0, hk1, H⟩
  obtain ⟨vv, wv, H⟩ := refR_open.1 (Holds.to H : Holds w (RefR s M :: RowI r R :: L))
  refine W.seq (fun K3 hK3 => ?_)
  refine W.seq (fun K4 hK4 => ?_)
  refine W.region ?_
  refine O.ex (Ex.move rfl) rfl ?_
  refine O.ex (Ex.move rfl) rfl ?_
  refine O.ex (by first | exact Ex.nilPtr rfl | exact Ex.nilFunc rfl | exact Ex.nilYield rfl) rfl ?_
  refine O.ex (by first | exact Ex.field0 fld84_0 rfl | exact Ex.field fld84_0 rfl | exact Ex.fieldS fld84_0 rfl) rfl ?_
  refine O.ex (by first | exact Ex.loadP Try.isAgg52 rfl | exact Ex.loadR Try.isAgg52 rfl | exact Ex.loadIn1 Try.isAgg52 rfl (Holds.to (by assumption))) rfl ?_
  refine O.ex (by first | exact Ex.lenR Try.runUnderlying52 rfl | exact Ex.lenIn Try.runUnderlying52 rfl | exact Ex.lenL Try.runUnderlying52 rfl | exact Ex.len rfl Try.runUnderlying52 rfl) rfl ?_
  refine O.ex (Ex.leq rfl rfl) rfl ?_
  refine O.nil ?_
  refine hK4 _ _ _ ?_
  first | refine W.cond_p rfl (fun hle => ?_) (fun hgt => ?_) | refine W.cond_b rfl (fun hle => ?_) (fun hgt => ?_)
  · refine W.skip ?_
    refine hK3 _ _ _ ?_
    refine W.seq (fun K5 hK5 => ?_)
    refine W.block ?_
    refine W.seq (fun K6 hK6 => ?_)
    refine W.region ?_
    refine O.ex (Ex.move rfl) rfl ?_
    refine O.ex (Ex.move rfl) rfl ?_
    refine O.callF Try.call43 rfl rfl (CT.mono (getM_ct (R := R) (M := M) (n := n) (Holds.to (by assumption)) h) ?_)
    rintro _ w ⟨hg, H⟩
    rcases hg with ⟨hin, hIs, rfl⟩ | ⟨hout, rfl⟩
    · refine O.ex (Ex.move rfl) rfl ?_
      refine O.ex (Ex.extract rfl rfl) rfl ?_
      refine O.ex (Ex.extract rfl rfl) rfl ?_
      refine O.ex (Ex.assign rfl) rfl ?_
      refine O.ex (Ex.assign rfl) rfl ?_
      refine O.nil ?_
      refine hK6 _ _ _ ?_
      refine W.seq (fun K7 hK7 => ?_)
      refine W.region ?_
      refine O.ex (Ex.move rfl) rfl ?_
      refine O.ex (Ex.move rfl) rfl ?_
      refine O.callF Try.call14 rfl rfl (CT.mono (refThere_ct (M := M) (refR_open.2 ⟨vv, wv, Holds.to (by assumption)⟩)) ?_)
      rintro _ w ⟨rfl, H⟩
      obtain ⟨vv, wv, H⟩ := refR_open.1 H
      refine O.ex (Ex.move rfl) rfl ?_
      refine O.known (t := 27) (c := true) rfl (by first | rfl | exact decide_eq_true (by omega) | exact hIs | exact hout (by omega) | simp) ?_
      refine O.guard_t rfl rfl ?_
      refine O.ex (Ex.move rfl) rfl ?_
      refine O.guard_t rfl rfl ?_
      refine O.ex (by first | exact Ex.nilPtr rfl | exact Ex.nilFunc rfl | exact Ex.nilYield rfl) rfl ?_
      refine O.guard_t rfl rfl ?_
      refine O.ex (by first | exact Ex.field0 fld84_1 rfl | exact Ex.field fld84_1 rfl | exact Ex.fieldS fld84_1 rfl) rfl ?_
      refine O.guard_t rfl rfl ?_
      refine O.ex (by first | exact Ex.loadP Try.isAgg48 rfl | exact Ex.loadR Try.isAgg48 rfl | exact Ex.loadIn1 Try.isAgg48 rfl (Holds.to (by assumption))) rfl ?_
      refine O.guard_t rfl rfl ?_
      refine O.ex (Ex.move rfl) rfl ?_
      refine O.guard_t rfl rfl ?_
      refine O.ex (by first | exact Ex.idxR Try.runUnderlying48 Try.sizeOf4 rfl rfl | exact Ex.idxIn Try.runUnderlying48 Try.sizeOf4 rfl rfl | exact Ex.idxS Try.runUnderlying48 Try.sizeOf4 rfl rfl | exact Ex.idx Try.runUnderlying48 Try.sizeOf4 rfl rfl (by omega) (by omega)) rfl ?_
      refine O.guard_t rfl rfl ?_
      refine O.ex (by first | exact Ex.loadP Try.isAgg4 rfl | exact Ex.loadR Try.isAgg4 rfl | exact Ex.loadIn1 Try.isAgg4 rfl (Holds.to (by assumption))) rfl ?_
      refine O.ex (Ex.pick_t rfl rfl) rfl ?_
      refine O.ex (Ex.assign rfl) rfl ?_
      refine O.nil ?_
      refine hK7 _ _ _ ?_
      refine W.seq (fun K8 hK8 => ?_)
      refine W.region ?_
      refine O.known (t := 8) (c := true) rfl (by first | rfl | exact decide_eq_true (by omega) | exact hIs | exact hout (by omega) | simp) ?_
      refine O.ex (Ex.move rfl) rfl ?_
      refine O.ex (Ex.move rfl) rfl ?_
      refine O.ex (Ex.neqB Try.runUnderlying4 rfl rfl) rfl ?_
      refine O.ex (Ex.move rfl) rfl ?_
      refine O.known (t := 39) (c := false) rfl (by first | rfl | exact decide_eq_true (by omega) | exact hIs | exact hout (by omega) | simp) ?_
      refine O.guard_t rfl rfl ?_
      refine O.ex (Ex.move rfl) rfl ?_
      refine O.guard_t rfl rfl ?_
      refine O.ex (Ex.move rfl) rfl ?_
      refine O.guard_t rfl rfl ?_
      refine O.ex (Ex.move rfl) rfl ?_
      refine O.guard_t rfl rfl ?_
      refine O.ex (Ex.move rfl) rfl ?_
      refine O.guard_t rfl rfl ?_
      refine O.ex (by first | exact Ex.nilPtr rfl | exact Ex.nilFunc rfl | exact Ex.nilYield rfl) rfl ?_
      refine O.guard_t rfl rfl ?_
      refine O.ex (by first | exact Ex.field0 fld84_0 rfl | exact Ex.field fld84_0 rfl | exact Ex.fieldS fld84_0 rfl) rfl ?_
      refine O.guard_t rfl rfl ?_
      refine O.ex (by first | exact Ex.loadP Try.isAgg52 rfl | exact Ex.loadR Try.isAgg52 rfl | exact Ex.loadIn1 Try.isAgg52 rfl (Holds.to (by assumption))) rfl ?_
      refine O.guard_t rfl rfl ?_
      refine O.ex (Ex.move rfl) rfl ?_
      refine O.guard_t rfl rfl ?_
      refine O.ex (by first | exact Ex.idxR Try.runUnderlying52 Try.sizeOf3 rfl rfl | exact Ex.idxIn Try.runUnderlying52 Try.sizeOf3 rfl rfl | exact Ex.idxS Try.runUnderlying52 Try.sizeOf3 rfl rfl | exact Ex.idx Try.runUnderlying52 Try.sizeOf3 rfl rfl (by omega) (by omega)) rfl ?_
      refine O.guard_t rfl rfl ?_
      refine O.ex (by first | exact Ex.loadP Try.isAgg3 rfl | exact Ex.loadR Try.isAgg3 rfl | exact Ex.loadIn1 Try.isAgg3 rfl (Holds.to (by assumption))) rfl ?_
      refine O.guard_t rfl rfl ?_
      refine O.ex (Ex.neqI rfl rfl) rfl ?_
      refine O.guard_t rfl rfl ?_
      refine O.ex (Ex.pick_t rfl rfl) rfl ?_
      refine O.ex (Ex.pick_f rfl rfl) rfl ?_
      refine O.ex (Ex.move rfl) rfl ?_
      refine O.known (t := 53) (c := false) rfl (by first | rfl | exact decide_eq_true (by omega) | exact hIs | exact hout (by omega) | simp) ?_
      refine O.guard_t rfl rfl ?_
      refine O.ex (Ex.move rfl) rfl ?_
      refine O.guard_t rfl rfl ?_
      refine O.ex (by first | exact Ex.notD rfl | exact Ex.not rfl) rfl ?_
      refine O.guard_t rfl rfl ?_
      refine O.ex (Ex.move rfl) rfl ?_
      refine O.guard_f rfl rfl rfl rfl ?_
      refine O.guard_f rfl rfl rfl rfl ?_
      refine O.guard_t rfl rfl ?_
      refine O.ex (Ex.pick_f rfl rfl) rfl ?_
      refine O.ex (Ex.pick_f rfl rfl) rfl ?_
      refine O.nil ?_
      refine hK8 _ _ _ ?_
      refine W.cond_f rfl ?_
      refine W.skip ?_
      refine hK5 _ _ _ ?_
      refine W.region ?_
      refine O.ex (Ex.move rfl) rfl ?_
      refine O.ex (by first | exact Ex.addI rfl rfl | exact Ex.add rfl rfl rfl) rfl ?_
      refine O.ex (Ex.assign rfl) rfl ?_
      refine O.nil ?_
      exact ⟨k + 1, ⟨rfl, rfl, rfl, trivial⟩, ⟨rfl, by omega, by omega, Holds.to (refR_open.2 ⟨vv, wv, Holds.to (by assumption)⟩ : Holds w (RefR s M :: RowI r R :: L))⟩, by omega⟩
    · refine O.ex (Ex.move rfl) rfl ?_
      refine O.ex (Ex.extract rfl rfl) rfl ?_
      refine O.ex (Ex.extract rfl rfl) rfl ?_
      refine O.ex (Ex.assign rfl) rfl ?_
      refine O.ex (Ex.assign rfl) rfl ?_
      refine O.nil ?_
      refine hK6 _ _ _ ?_
      refine W.seq (fun K9 hK9 => ?_)
      refine W.region ?_
      refine O.ex (Ex.move rfl) rfl ?_
      refine O.ex (Ex.move rfl) rfl ?_
      refine O.callF Try.call14 rfl rfl (CT.mono (refThere_ct (M := M) (refR_open.2 ⟨vv, wv, Holds.to (by assumption)⟩)) ?_)
      rintro _ w ⟨rfl, H⟩
      obtain ⟨vv, wv, H⟩ := refR_open.1 H
      refine O.ex (Ex.move rfl) rfl ?_
      first | refine O.split_p (t := 27) rfl (fun hin => ?_) (fun hnot => ?_) | refine O.split (t := 27) rfl (fun hin => ?_) (fun hnot => ?_)
      · refine O.guard_t rfl rfl ?_
        refine O.ex (Ex.move rfl) rfl ?_
        refine O.guard_t rfl rfl ?_
        refine O.ex (by first | exact Ex.nilPtr rfl | exact Ex.nilFunc rfl | exact Ex.nilYield rfl) rfl ?_
        refine O.guard_t rfl rfl ?_
        refine O.ex (by first | exact Ex.field0 fld84_1 rfl | exact Ex.field fld84_1 rfl | exact Ex.fieldS fld84_1 rfl) rfl ?_
        refine O.guard_t rfl rfl ?_
        refine O.ex (by first | exact Ex.loadP Try.isAgg48 rfl | exact Ex.loadR Try.isAgg48 rfl | exact Ex.loadIn1 Try.isAgg48 rfl (Holds.to (by assumption))) rfl ?_
        refine O.guard_t rfl rfl ?_
        refine O.ex (Ex.move rfl) rfl ?_
        refine O.guard_t rfl rfl ?_
        refine O.ex (by first | exact Ex.idxR Try.runUnderlying48 Try.sizeOf4 rfl rfl | exact Ex.idxIn Try.runUnderlying48 Try.sizeOf4 rfl rfl | exact Ex.idxS Try.runUnderlying48 Try.sizeOf4 rfl rfl | exact Ex.idx Try.runUnderlying48 Try.sizeOf4 rfl rfl (by omega) (by omega)) rfl ?_
        refine O.guard_t rfl rfl ?_
        refine O.ex (by first | exact Ex.loadP Try.isAgg4 rfl | exact Ex.loadR Try.isAgg4 rfl | exact Ex.loadIn1 Try.isAgg4 rfl (Holds.to (by assumption))) rfl ?_
        refine O.ex (Ex.pick_t rfl rfl) rfl ?_
        refine O.ex (Ex.assign rfl) rfl ?_
        refine O.nil ?_
        refine hK9 _ _ _ ?_
        refine W.seq (fun K10 hK10 => ?_)
        refine W.region ?_
        refine O.known (t := 8) (c := false) rfl (by first | rfl | exact decide_eq_true (by omega) | exact hIs | exact hout (by omega) | simp) ?_
        refine O.ex (Ex.move rfl) rfl ?_
        refine O.ex (Ex.move rfl) rfl ?_
        refine O.ex (Ex.neqB Try.runUnderlying4 rfl rfl) rfl ?_
        refine O.ex (Ex.move rfl) rfl ?_
        refine O.known (t := 39) (c := false) rfl (by first | rfl | exact decide_eq_true (by omega) | exact hIs | exact hout (by omega) | simp) ?_
        refine O.guard_t rfl rfl ?_
        refine O.ex (Ex.move rfl) rfl ?_
        refine O.guard_t rfl rfl ?_
        refine O.ex (Ex.move rfl) rfl ?_
        refine O.guard_f rfl rfl rfl rfl ?_
        refine O.guard_f rfl rfl rfl rfl ?_
        refine O.guard_f rfl rfl rfl rfl ?_
        refine O.guard_f rfl rfl rfl rfl ?_
        refine O.guard_f rfl rfl rfl rfl ?_
        refine O.guard_f rfl rfl rfl rfl ?_
        refine O.guard_f rfl rfl rfl rfl ?_
        refine O.guard_f rfl rfl rfl rfl ?_
        refine O.guard_f rfl rfl rfl rfl ?_
        refine O.guard_t rfl rfl ?_
        refine O.ex (Ex.pick_f rfl rfl) rfl ?_
        refine O.ex (Ex.pick_f rfl rfl) rfl ?_
        refine O.ex (Ex.move rfl) rfl ?_
        refine O.guard_t rfl rfl ?_
        refine O.ex (Ex.move rfl) rfl ?_
        refine O.guard_t rfl rfl ?_
        refine O.ex (by first | exact Ex.notD rfl | exact Ex.not rfl) rfl ?_
        refine O.guard_t rfl rfl ?_
        refine O.ex (Ex.move rfl) rfl ?_
        refine O.guard_t rfl rfl ?_
        refine O.ex (Ex.move rfl) rfl ?_
        refine O.guard_t rfl rfl ?_
        refine O.ex (Ex.neqI rfl rfl) rfl ?_
        refine O.guard_t rfl rfl ?_
        refine O.ex (Ex.pick_t rfl rfl) rfl ?_
        refine O.ex (Ex.pick_f rfl rfl) rfl ?_
        refine O.nil ?_
        refine hK10 _ _ _ ?_
        refine W.known_f rfl (by first | rfl | exact decide_eq_true (by omega) | exact hIs | exact hout (by omega) | simp) ?_
        refine W.skip ?_
        refine hK5 _ _ _ ?_
        refine W.region ?_
        refine O.ex (Ex.move rfl) rfl ?_
        refine O.ex (by first | exact Ex.addI rfl rfl | exact Ex.add rfl rfl rfl) rfl ?_
        refine O.ex (Ex.assign rfl) rfl ?_
        refine O.nil ?_
        exact ⟨k + 1, ⟨rfl, rfl, rfl, trivial⟩, ⟨rfl, by omega, by omega, Holds.to (refR_open.2 ⟨vv, wv, Holds.to (by assumption)⟩ : Holds w (RefR s M :: RowI r R :: L))⟩, by omega⟩
      · refine O.guard_f rfl rfl rfl rfl ?_
        refine O.guard_f rfl rfl rfl rfl ?_
        refine O.guard_f rfl rfl rfl rfl ?_
        refine O.guard_f rfl rfl rfl rfl ?_
        refine O.guard_f rfl rfl rfl rfl ?_
        refine O.guard_f rfl rfl rfl rfl ?_
        refine O.guard_f rfl rfl rfl rfl ?_
        refine O.ex (Ex.pick_f rfl rfl) rfl ?_
        refine O.ex (Ex.assign rfl) rfl ?_
        refine O.nil ?_
        refine hK9 _ _ _ ?_
        refine W.seq (fun K11 hK11 => ?_)
        refine W.region ?_
        refine O.ex (Ex.move rfl) rfl ?_
        refine O.ex (Ex.move rfl) rfl ?_
        refine O.ex (Ex.neqB Try.runUnderlying4 rfl rfl) rfl ?_
        refine O.ex (Ex.move rfl) rfl ?_
        refine O.known (t := 39) (c := false) rfl (by first | rfl | exact decide_eq_true (by omega) | exact hIs | exact hout (by omega) | simp) ?_
        refine O.guard_t rfl rfl ?_
        refine O.ex (Ex.move rfl) rfl ?_
        refine O.guard_t rfl rfl ?_
        refine O.ex (Ex.move rfl) rfl ?_
        refine O.guard_f rfl rfl rfl rfl ?_
        refine O.guard_f rfl rfl rfl rfl ?_
        refine O.guard_f rfl rfl rfl rfl ?_
        refine O.guard_f rfl rfl rfl rfl ?_
        refine O.guard_f rfl rfl rfl rfl ?_
        refine O.guard_f rfl rfl rfl rfl ?_
        refine O.guard_f rfl rfl rfl rfl ?_
        refine O.guard_f rfl rfl rfl rfl ?_
        refine O.guard_f rfl rfl rfl rfl ?_
        refine O.guard_t rfl rfl ?_
        refine O.ex (Ex.pick_f rfl rfl) rfl ?_
        refine O.ex (Ex.pick_f rfl rfl) rfl ?_
        refine O.ex (Ex.move rfl) rfl ?_
        refine O.guard_t rfl rfl ?_
        refine O.ex (Ex.move rfl) rfl ?_
        refine O.guard_t rfl rfl ?_
        refine O.ex (by first | exact Ex.notD rfl | exact Ex.not rfl) rfl ?_
        refine O.guard_t rfl rfl ?_
        refine O.ex (Ex.move rfl) rfl ?_
        refine O.guard_t rfl rfl ?_
        refine O.ex (Ex.move rfl) rfl ?_
        refine O.guard_t rfl rfl ?_
        refine O.ex (Ex.neqI rfl rfl) rfl ?_
        refine O.guard_t rfl rfl ?_
        refine O.ex (Ex.pick_t rfl rfl) rfl ?_
        refine O.ex (Ex.pick_f rfl rfl) rfl ?_
        refine O.nil ?_
        refine hK11 _ _ _ ?_
        refine W.known_f rfl (by first | rfl | exact decide_eq_true (by omega) | exact hIs | exact hout (by omega) | simp) ?_
        refine W.skip ?_
        refine hK5 _ _ _ ?_
        refine W.region ?_
        refine O.ex (Ex.move rfl) rfl ?_
        refine O.ex (by first | exact Ex.addI rfl rfl | exact Ex.add rfl rfl rfl) rfl ?_
        refine O.ex (Ex.assign rfl) rfl ?_
        refine O.nil ?_
        exact ⟨k + 1, ⟨rfl, rfl, rfl, trivial⟩, ⟨rfl, by omega, by omega, Holds.to (refR_open.2 ⟨vv, wv, Holds.to (by assumption)⟩ : Holds w (RefR s M :: RowI r R :: L))⟩, by omega⟩
  · refine W.exit ?_
    refine hK1 _ _ _ ?_
    refine W.seq (fun K12 hK12 => ?_)
    refine W.region ?_
    have H := (refR_open.2 ⟨vv, wv, H⟩ : Holds w (RefR s M :: RowI r R :: L))
    refine O.ex (Ex.move rfl) rfl ?_
    refine O.callF Try.call44 rfl rfl (CT.mono (lenI_ct (R := R) (Holds.to (by assumption))) ?_)
    rintro _ w ⟨rfl, H⟩
    refine O.ex (Ex.move rfl) rfl ?_
    refine O.callF Try.call47 rfl rfl (CT.mono (refLen_ct (M := M) (Holds.to (by assumption)) (by omega)) ?_)
    rintro _ w ⟨rfl, H⟩
    refine O.ex (Ex.eqlI rfl rfl) rfl ?_
    refine O.ex (Ex.assign rfl) rfl ?_
    refine O.nil ?_
    refine hK12 _ _ _ ?_
    refine W.ret ?_
    try dsimp only [thenQ, blockQ, retQ]
    first | refine ⟨_, ⟨_, _, rfl, rfl, rfl⟩, ?_⟩ | (refine retD_mark ?_; intro w H; refine ⟨_, ⟨_, _, rfl, rfl, rfl⟩, ?_⟩) | (refine retD_mark2 ?_; intro w H; refine ⟨_, ⟨_, _, rfl, rfl, rfl⟩, ?_⟩)
    exact ⟨by simp only [oneOf]; rw [decide_eq_true h.cnt], Holds.to (by assumption)⟩
end Go.Proofs.Ytikdblejkmaloaa
