import Derived.Test.YthpmohkmjfhmmaaPermOf
--ARR
namespace Go.Proofs.Ythpmohkmjfhmmaa
open Go.Rr Go
set_option linter.unusedVariables false
/-- A value of one cell. -/
abbrev OneV := { v : Value // v.oneCell' = true }
instance : Inhabited OneV := ⟨⟨.bool false, rfl⟩⟩
abbrev encP (p : OneV × List Int) : Value := p.1.1
abbrev ints1 (p : OneV × List Int) : HProp := arr 3 (Value.int .i64) p.1.1 p.2
/-- Slices of numbers, each on memory of its own. -/
def ins (ps : List (OneV × List Int)) : HProp := star (ps.map ints1)
def insBut (ps : List (OneV × List Int)) (j : Nat) : HProp := star ((ps.map ints1).eraseIdx j)
theorem insert_erase {α : Type} : ∀ (l L : List α) (j : Nat) (x : α), l[j]? = some x → (l.eraseIdx j ++ L).insertIdx j x = l ++ L
  | [], L, j, x, h => by simp at h
  | a :: l, L, 0, x, h => by simp at h; subst h; simp
  | a :: l, L, j + 1, x, h => by
    simp only [List.eraseIdx_cons_succ, List.cons_append, List.insertIdx_succ_cons]
    rw [insert_erase l L j x (by simpa using h)]
theorem ins_at {ps : List (OneV × List Int)} {j : Nat} (h : j < ps.length) : (ps.map ints1)[j]? = some (ints1 (ps.getD j default)) := by
  rw [List.getElem?_map, List.getElem?_eq_getElem h, List.getD_eq_getElem?_getD, List.getElem?_eq_getElem h]; rfl
theorem ins_take {w : World} {ps : List (OneV × List Int)} {j : Nat} {L : List HProp} (h : j < ps.length) (H : Holds w (ins ps :: L)) : Holds w (ints1 (ps.getD j default) :: insBut ps j :: L) := by
  have H1 := Holds.star.1 H
  have H2 := Holds.front (A := ints1 (ps.getD j default)) j H1 (by rw [List.getElem?_append_left (by simpa using h)]; exact ins_at h)
  rw [List.eraseIdx_append_of_lt_length (by simpa using h)] at H2
  exact Holds.cons (fun f hf => sep_star.2 hf) H2
theorem ins_put {w : World} {ps : List (OneV × List Int)} {j : Nat} {L : List HProp} (h : j < ps.length) (H : Holds w (ints1 (ps.getD j default) :: insBut ps j :: L)) : Holds w (ins ps :: L) := by
  refine Holds.star.2 ?_
  have H2 : Holds w (ints1 (ps.getD j default) :: ((ps.map ints1).eraseIdx j ++ L)) := Holds.cons (fun f hf => sep_star.1 hf) H
  have H3 := sep_back j ((ps.map ints1).eraseIdx j ++ L) _ _ (by rw [List.length_append, List.length_eraseIdx_of_lt (by simpa using h), List.length_map]; omega) H2
  rw [insert_erase _ _ _ _ (ins_at h)] at H3
  exact H3
theorem ins_add {w : World} {ps : List (OneV × List Int)} {p : OneV × List Int} {L : List HProp} (H : Holds w (ins ps :: ints1 p :: L)) : Holds w (ins (ps ++ [p]) :: L) := by
  refine Holds.star.2 ?_
  have H1 := Holds.star.1 H
  rw [List.map_append, List.map_singleton, List.append_assoc]
  exact H1
theorem ins_nil {w : World} {L : List HProp} (H : Holds w L) : Holds w (ins [] :: L) := Holds.star.2 H
theorem fac5 {k : Nat} (h : k ≤ 5) : fac k ≤ 120 := Nat.le_trans (fac_mono h) (by decide)
set_option maxHeartbeats 1000000 in
theorem permAll_ct {w0 : World} {q : Int} (hq : (Lit.int .u8 q).wf = true) :
    CT Try.prog 5 [.int .u8 q] w0 fun u w' => u = .bool true ∧ RowKit.Below w0.heap.size w0 w' := by
  have H := Holds.base_refl w0
  obtain ⟨q0, q1⟩ := bounds_u8 hq
  refine CT.enter (N := 64) Try.func5 rfl rfl rfl rfl ?_
  refine W.seq (fun K0 hK0 => ?_)
  refine W.region ?_
  refine O.ex (Ex.assign rfl) rfl ?_
  refine O.nil ?_
  refine hK0 _ _ _ ?_
  refine W.seq (fun K1 hK1 => ?_)
  refine W.seq (fun K2 hK2 => ?_)
  refine W.region ?_
  refine O.callF Try.call13 rfl rfl (CT.mono (awake07_ct (Holds.to (by assumption))) ?_)
  rintro _ w ⟨rfl, H⟩
  refine O.ex (by first | exact Ex.notD rfl | exact Ex.not rfl) rfl ?_
  refine O.nil ?_
  refine hK2 _ _ _ ?_
  refine W.known_f rfl (by first | rfl | decide | exact decide_eq_false (fun hh => hh hor) | (refine decide_eq_false ?_; omega) | exact decide_eq_false hnej) ?_
  refine W.skip ?_
  refine hK1 _ _ _ ?_
  refine W.seq (fun K3 hK3 => ?_)
  refine W.region ?_
  refine O.ex (Ex.move rfl) rfl ?_
  refine O.ex (by first | exact Ex.convToI Try.runUnderlying5 Try.runUnderlying3 rfl | exact Ex.convW Try.runUnderlying5 Try.runUnderlying3 rfl) rfl ?_
  refine O.ex (by first | exact Ex.remI rfl rfl | exact Ex.rem rfl rfl (by omega) rfl) rfl ?_
  refine O.ex (Ex.assign rfl) rfl ?_
  refine O.nil ?_
  refine hK3 _ _ _ ?_
  refine W.seq (fun K4 hK4 => ?_)
  refine W.region ?_
  obtain ⟨k, hk⟩ : ∃ k : Nat, (k : Int) = q % 6 := ⟨(q % 6).toNat, by omega⟩
  have k5 : k ≤ 5 := by omega
  have hf := fac5 k5
  have hfp := fac_pos k
  have hhl : (hl (k : Int)).toNat = k := by unfold hl; omega
  rw [← hk]
  refine O.ex (Ex.assign rfl) rfl ?_
  refine O.nil ?_
  refine hK4 _ _ _ ?_
  refine W.seq (fun K5 hK5 => ?_)
  refine W.seq (fun K6 hK6 => ?_)
  refine W.region ?_
  refine O.ex (Ex.assign rfl) rfl ?_
  refine O.nil ?_
  refine hK6 _ _ _ ?_
  refine W.block ?_
  refine W.loop (σ := Nat) (fun i => [(3, .int .i64 (k : Int)), (4, .int .i64 ((fac (min (i + 1) (max k 1)) : Nat) : Int)), (5, .int .i64 ((i + 2 : Nat) : Int))]) (fun i ds w => ds = [] ∧ (i + 1 ≤ k ∨ i = 0) ∧ Holds w [base w0]) (fun i => k - i) 0 ⟨rfl, by rw [show min (0 + 1) (max k 1) = 1 from by omega]; rfl, rfl, trivial⟩ ⟨rfl, by omega, Holds.to (by assumption)⟩ ?_
  clear H
  rintro i _ w ⟨rfl, hi, H⟩
  refine W.seq (fun K7 hK7 => ?_)
  refine W.seq (fun K8 hK8 => ?_)
  refine W.region ?_
  refine O.ex (Ex.move rfl) rfl ?_
  refine O.ex (Ex.move rfl) rfl ?_
  refine O.ex (Ex.leq rfl rfl) rfl ?_
  refine O.nil ?_
  refine hK8 _ _ _ ?_
  first | refine W.cond_p rfl (fun hlt => ?_) (fun hge => ?_) | refine W.cond_b rfl (fun hlt => ?_) (fun hge => ?_)
  · refine W.skip ?_
    refine hK7 _ _ _ ?_
    refine W.seq (fun K9 hK9 => ?_)
    refine W.block ?_
    refine W.region ?_
    have e1 : min (i + 1) (max k 1) = i + 1 := by omega
    have e2 : min (i + 1 + 1) (max k 1) = i + 2 := by omega
    have hfm : fac (i + 2) ≤ fac k := fac_mono (by omega)
    have hfe : fac (i + 2) = (i + 2) * fac (i + 1) := rfl
    rw [e1]
    refine O.ex (Ex.move rfl) rfl ?_
    refine O.ex (Ex.move rfl) rfl ?_
    refine O.ex (Ex.mul (r := ((fac (i + 2) : Nat) : Int)) rfl rfl (by rw [← Int.natCast_mul, Nat.mul_comm, ← hfe]; exact IntWalk.i64_in _ ⟨by omega, by omega⟩)) rfl ?_
    refine O.ex (Ex.assign rfl) rfl ?_
    refine O.nil ?_
    refine hK9 _ _ _ ?_
    refine W.region ?_
    refine O.ex (Ex.move rfl) rfl ?_
    refine O.ex (by first | exact Ex.addI rfl rfl | exact Ex.add rfl rfl rfl) rfl ?_
    refine O.ex (Ex.assign rfl) rfl ?_
    refine O.nil ?_
    exact ⟨i + 1, ⟨rfl, by rw [e2]; rfl, rfl, trivial⟩, ⟨rfl, by omega, Holds.to (by assumption)⟩, by omega⟩
  · refine W.exit ?_
    refine hK5 _ _ _ ?_
    refine W.seq (fun K10 hK10 => ?_)
    refine W.region ?_
    have efac : fac (min (i + 1) (max k 1)) = fac k := by
      rcases Nat.eq_zero_or_pos k with e | e
      · subst e; rw [show min (i + 1) (max 0 1) = 1 from by omega]; rfl
      · congr 1; omega
    rw [efac]
    refine O.ex (Ex.assign rfl) rfl ?_
    refine O.nil ?_
    refine hK10 _ _ _ ?_
    refine W.seq (fun K11 hK11 => ?_)
    refine W.seq (fun K12 hK12 => ?_)
    refine W.region ?_
    refine O.ex (Ex.assign rfl) rfl ?_
    refine O.nil ?_
    refine hK12 _ _ _ ?_
    refine W.block ?_
    have H := ins_nil (arr_nil (T := 22) (e := encP) H)
    refine W.loop (σ := Nat × Value) (fun i => [(3, .int .i64 (k : Int)), (4, .int .i64 ((fac k : Nat) : Int)), (6, i.2), (7, .int .i64 (i.1 : Int))]) (fun i ds w => ds = [] ∧ i.1 ≤ fac k ∧ i.2.oneCell' = true ∧ ∃ ps, ps.length = i.1 ∧ (∀ j, j < i.1 → (ps.getD j default).2 = ofN k j) ∧ Holds w [ins ps, arr 22 encP i.2 ps, base w0]) (fun i => fac k - i.1) (0, .slice none 0 0) ⟨rfl, rfl, rfl, rfl, trivial⟩ ⟨rfl, by simp, rfl, [], rfl, fun j hj => absurd hj (by simp), Holds.to (by assumption)⟩ ?_
    clear H
    rintro ⟨i, vs⟩ _ w ⟨rfl, hi, hvs, ps, hpl, hps, H⟩
    dsimp only at hi hvs hpl hps H
    dsimp only
    refine W.seq (fun K13 hK13 => ?_)
    refine W.seq (fun K14 hK14 => ?_)
    refine W.region ?_
    refine O.ex (Ex.move rfl) rfl ?_
    refine O.ex (Ex.move rfl) rfl ?_
    refine O.ex (Ex.lss rfl rfl) rfl ?_
    refine O.nil ?_
    refine hK14 _ _ _ ?_
    first | refine W.cond_p rfl (fun hlt => ?_) (fun hge => ?_) | refine W.cond_b rfl (fun hlt => ?_) (fun hge => ?_)
    · refine W.skip ?_
      refine hK13 _ _ _ ?_
      refine W.seq (fun K15 hK15 => ?_)
      refine W.block ?_
      refine W.seq (fun K16 hK16 => ?_)
      refine W.region ?_
      refine O.ex (Ex.move rfl) rfl ?_
      refine O.ex (Ex.move rfl) rfl ?_
      refine O.ex (Ex.convI (r := ((i : Nat) : Int)) Try.runUnderlying3 Try.runUnderlying30 rfl (by rw [wrap64]; omega)) rfl ?_
      refine O.callF Try.call20 rfl rfl (CT.mono (of_ct (n := (k : Int)) (a := i) (by omega) (Holds.to (by assumption))) ?_)
      rintro _ w ⟨ho1, H⟩
      rename_i va
      rw [hhl] at H
      have hor := ofN_right k i (by omega)
      have hol := ofN_len k i
      refine O.ex (Ex.assign rfl) rfl ?_
      refine O.nil ?_
      refine hK16 _ _ _ ?_
      refine W.seq (fun K17 hK17 => ?_)
      refine W.seq (fun K18 hK18 => ?_)
      refine W.region ?_
      refine O.ex (Ex.move rfl) rfl ?_
      refine O.callF Try.call16 rfl rfl (CT.mono (rightA_ct (l := ofN k i) (Holds.to (by assumption)) (by omega)) ?_)
      rintro _ w ⟨rfl, H⟩
      refine O.ex (by first | exact Ex.notD rfl | exact Ex.not rfl) rfl ?_
      refine O.ex (Ex.move rfl) rfl ?_
      refine O.known (t := 35) (c := false) rfl (by first | rfl | decide | exact decide_eq_false (fun hh => hh hor) | (refine decide_eq_false ?_; omega) | exact decide_eq_false hnej) ?_
      refine O.guard_t rfl rfl ?_
      refine O.ex (Ex.move rfl) rfl ?_
      refine O.guard_t rfl rfl ?_
      refine O.ex (by first | exact Ex.lenR Try.runUnderlying22 rfl | exact Ex.lenIn Try.runUnderlying22 rfl | exact Ex.lenL Try.runUnderlying22 rfl | exact Ex.len rfl Try.runUnderlying22 rfl) rfl ?_
      refine O.guard_t rfl rfl ?_
      refine O.ex (Ex.move rfl) rfl ?_
      refine O.guard_t rfl rfl ?_
      refine O.ex (Ex.neqI rfl rfl) rfl ?_
      refine O.ex (Ex.pick_f rfl rfl) rfl ?_
      refine O.nil ?_
      refine hK18 _ _ _ ?_
      refine W.known_f rfl (by first | rfl | decide | exact decide_eq_false (fun hh => hh hor) | (refine decide_eq_false ?_; omega) | exact decide_eq_false hnej) ?_
      refine W.skip ?_
      refine hK17 _ _ _ ?_
      refine W.seq (fun K19 hK19 => ?_)
      refine W.seq (fun K20 hK20 => ?_)
      refine W.region ?_
      refine O.ex (Ex.assign rfl) rfl ?_
      refine O.nil ?_
      refine hK20 _ _ _ ?_
      refine W.block ?_
      refine W.loop (σ := Nat) (fun j => [(3, .int .i64 (k : Int)), (4, .int .i64 ((fac k : Nat) : Int)), (6, vs), (7, .int .i64 (i : Int)), (8, va), (9, .int .i64 (j : Int))]) (fun j ds w => ds = [] ∧ j ≤ i ∧ Holds w [ins ps, arr 22 encP vs ps, arr 3 (Value.int .i64) va (ofN k i), base w0]) (fun j => i - j) 0 ⟨rfl, rfl, rfl, rfl, rfl, rfl, trivial⟩ ⟨rfl, by omega, Holds.to (by assumption)⟩ ?_
      clear H
      rintro j _ w ⟨rfl, hj, H⟩
      refine W.seq (fun K21 hK21 => ?_)
      refine W.seq (fun K22 hK22 => ?_)
      refine W.region ?_
      refine O.ex (Ex.move rfl) rfl ?_
      refine O.ex (Ex.move rfl) rfl ?_
      refine O.ex (by first | exact Ex.lenR Try.runUnderlying36 rfl | exact Ex.lenIn Try.runUnderlying36 rfl | exact Ex.lenL Try.runUnderlying36 rfl | exact Ex.len rfl Try.runUnderlying36 rfl) rfl ?_
      refine O.ex (Ex.lss rfl rfl) rfl ?_
      refine O.nil ?_
      refine hK22 _ _ _ ?_
      first | refine W.cond_p rfl (fun hlt2 => ?_) (fun hge2 => ?_) | refine W.cond_b rfl (fun hlt2 => ?_) (fun hge2 => ?_)
      · refine W.skip ?_
        refine hK21 _ _ _ ?_
        refine W.seq (fun K23 hK23 => ?_)
        refine W.block ?_
        refine W.seq (fun K24 hK24 => ?_)
        refine W.region ?_
        have hji : j < i := by omega
        have olj := ofN_len k j
        have hpj := hps j hji
        have hnej : ¬ ofN k j = ofN k i := fun e => by
          have := (ofN_iff k j i (by omega)).1 e
          rw [Nat.mod_eq_of_lt (by omega), Nat.mod_eq_of_lt (by omega)] at this
          omega
        refine O.ex (Ex.move rfl) rfl ?_
        refine O.ex (Ex.move rfl) rfl ?_
        refine O.ex (by first | exact Ex.idxR Try.runUnderlying36 Try.sizeOf22 rfl rfl | exact Ex.idxIn Try.runUnderlying36 Try.sizeOf22 rfl rfl | exact Ex.idxS Try.runUnderlying36 Try.sizeOf22 rfl rfl | exact Ex.idx Try.runUnderlying36 Try.sizeOf22 rfl rfl (by omega) (by omega)) rfl ?_
        refine O.ex (by first | exact Ex.loadR Try.isAgg22 rfl | exact Ex.loadIn1 Try.isAgg22 rfl (Holds.to (by assumption)) | exact Ex.loadP Try.isAgg22 rfl | exact Ex.loadMh Try.isAgg22 rfl | exact Ex.loadM Try.isAgg22 rfl | exact Ex.loadVc Try.isAgg22 rfl | exact Ex.loadQ Try.isAgg22 rfl) rfl ?_
        have H0 : Holds w (ins ps :: arr 22 encP vs ps :: arr 3 (Value.int .i64) va (ofN k i) :: base w0 :: []) := Holds.to (by assumption)
        refine O.ex (Ex.move rfl) rfl ?_
        have H := ins_take (j := j) (by omega) H0
        unfold ints1 at H
        rw [hpj] at H
        refine O.callF Try.call17 rfl rfl (CT.mono (intsA_ct (va := encP (ps.getD j default)) (v := va) (xs := ofN k j) (l := ofN k i) (Holds.to (by assumption)) (by omega) (by omega)) ?_)
        rintro _ w ⟨rfl, H⟩
        have H : Holds w (ints1 (ps.getD j default) :: insBut ps j :: arr 22 encP vs ps :: arr 3 (Value.int .i64) va (ofN k i) :: base w0 :: []) := by
          unfold ints1; rw [hpj]; exact Holds.to (by assumption)
        have H := ins_put (by omega) H
        refine O.nil ?_
        refine hK24 _ _ _ ?_
        refine W.known_f rfl (by first | rfl | decide | exact decide_eq_false (fun hh => hh hor) | (refine decide_eq_false ?_; omega) | exact decide_eq_false hnej) ?_
        refine W.skip ?_
        refine hK23 _ _ _ ?_
        refine W.region ?_
        refine O.ex (Ex.move rfl) rfl ?_
        refine O.ex (by first | exact Ex.addI rfl rfl | exact Ex.add rfl rfl rfl) rfl ?_
        refine O.ex (Ex.assign rfl) rfl ?_
        refine O.nil ?_
        exact ⟨j + 1, ⟨rfl, rfl, rfl, rfl, rfl, rfl, trivial⟩, ⟨rfl, by omega, Holds.to (by assumption)⟩, by omega⟩
      · refine W.exit ?_
        refine hK19 _ _ _ ?_
        refine W.region ?_
        refine O.ex (Ex.move rfl) rfl ?_
        refine O.ex (Ex.move rfl) rfl ?_
        refine O.build1 (e := encP) (z := (⟨va, ho1⟩, ofN k i)) Try.runUnderlying36 Try.sizeOf22 Try.zeroValue22 rfl (fun v55 w hv55 H => ?_) (he := ho1)
        refine O.appendR (e := encP) Try.runUnderlying36 Try.typeInfo22 (bt := 24) rfl Try.sizeOf22 Try.zeroValue22 rfl rfl (fun v56 w hv56 H => ?_) (he := fun p => p.1.2)
        refine O.ex (Ex.assign rfl) rfl ?_
        refine O.nil ?_
        refine hK15 _ _ _ ?_
        refine W.region ?_
        refine O.ex (Ex.move rfl) rfl ?_
        refine O.ex (by first | exact Ex.addI rfl rfl | exact Ex.add rfl rfl rfl) rfl ?_
        refine O.ex (Ex.assign rfl) rfl ?_
        refine O.nil ?_
        have H : Holds w (ins ps :: ints1 (⟨va, ho1⟩, ofN k i) :: arr 22 encP v56 (ps ++ [(⟨va, ho1⟩, ofN k i)]) :: base w0 :: []) := Holds.to (by assumption)
        have H := ins_add H
        refine ⟨(i + 1, v56), ⟨rfl, rfl, rfl, rfl, trivial⟩, ⟨rfl, by dsimp only; omega, by assumption, ps ++ [(⟨va, ho1⟩, ofN k i)], by rw [List.length_append, hpl]; rfl, fun x hx => ?_, Holds.to (by assumption)⟩, by dsimp only; omega⟩
        dsimp only at hx
        by_cases e : x = i
        · subst e
          rw [List.getD_eq_getElem?_getD, List.getElem?_append_right (by omega), hpl, Nat.sub_self]; rfl
        · rw [List.getD_eq_getElem?_getD, List.getElem?_append_left (by omega), ← List.getD_eq_getElem?_getD]
          exact hps x (by omega)
    · refine W.exit ?_
      refine hK11 _ _ _ ?_
      refine W.seq (fun K25 hK25 => ?_)
      refine W.region ?_
      refine O.ex (Ex.move rfl) rfl ?_
      refine O.ex (Ex.move rfl) rfl ?_
      refine O.ex (Ex.convI (r := ((fac k : Nat) : Int)) Try.runUnderlying3 Try.runUnderlying30 rfl (by rw [wrap64]; omega)) rfl ?_
      refine O.callF Try.call20 rfl rfl (CT.mono (of_ct (n := (k : Int)) (a := fac k) (by omega) (Holds.to (by assumption))) ?_)
      rintro _ w ⟨ho5, H⟩
      rename_i vx
      rw [hhl] at H
      refine O.ex (Ex.move rfl) rfl ?_
      refine O.callF Try.call20 rfl rfl (CT.mono (of_ct (n := (k : Int)) (a := 0) (by omega) (Holds.to (by assumption))) ?_)
      rintro _ w ⟨ho6, H⟩
      rename_i vy
      rw [hhl] at H
      refine O.callF Try.call17 rfl rfl (CT.mono (intsA_ct (va := vx) (v := vy) (xs := ofN k (fac k)) (l := ofN k 0) (Holds.to (by assumption)) (by rw [ofN_len]; omega) (by rw [ofN_len]; omega)) ?_)
      rintro _ w ⟨rfl, H⟩
      refine O.ex (Ex.assign rfl) rfl ?_
      refine O.nil ?_
      refine hK25 _ _ _ ?_
      refine W.ret ?_
      try dsimp only [thenQ, blockQ, retQ]
      first | refine ⟨_, ⟨_, _, rfl, rfl, rfl⟩, ?_⟩ | (refine retD_mark ?_; intro w H; refine ⟨_, ⟨_, _, rfl, rfl, rfl⟩, ?_⟩) | (refine retD_mark2 ?_; intro w H; refine ⟨_, ⟨_, _, rfl, rfl, rfl⟩, ?_⟩)
      exact ⟨congrArg Value.bool (decide_eq_true ((ofN_iff k (fac k) 0 (by omega)).2 (by rw [Nat.mod_self, Nat.zero_mod]))), Holds.base_below (L := []) (Holds.to (by assumption))⟩
theorem permAll_row {w0 : World} {q : Int} (hq : (Lit.int .u8 q).wf = true) :
    CT Try.prog 5 [.int .u8 q] w0 fun u w' => u = .bool true ∧ RowKit.Below w0.heap.size w0 w' := permAll_ct hq
end Go.Proofs.Ythpmohkmjfhmmaa
