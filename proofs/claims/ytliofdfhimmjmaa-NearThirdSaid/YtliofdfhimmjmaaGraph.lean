import Derived.Test.YtliofdfhimmjmaaGraphMem
--LOADS loadG1 loadG2 loadAt loadCn loadMo loadE0 loadE1
--AGGLOADS loadArc
namespace Go.Proofs.Ytliofdfhimmjmaa
open Go.Rr Go Gr
set_option linter.unusedVariables false
theorem place_ct {w : World} {id : Int} {L : List HProp} (H : Holds w L) : CT Try.prog 56 [.int .i64 id] w fun u w' => u = .bool (decide (pl id)) ∧ Holds w' L := by
  refine CT.enter (N := 9) Try.func56 rfl rfl rfl rfl ?_
  refine W.seq (fun K0 hK0 => ?_)
  refine W.region ?_
  refine O.ex (Ex.assign rfl) rfl ?_
  refine O.nil ?_
  refine hK0 _ _ _ ?_
  refine W.seq (fun K1 hK1 => ?_)
  refine W.region ?_
  refine O.ex (Ex.move rfl) rfl ?_
  refine O.ex (Ex.geq rfl rfl) rfl ?_
  refine O.ex (Ex.move rfl) rfl ?_
  first | refine O.split_p (t := 5) rfl (fun h0 => ?_) (fun h0 => ?_) | refine O.split (t := 5) rfl (fun h0 => ?_) (fun h0 => ?_)
  · refine O.guard_t rfl rfl ?_
    refine O.ex (Ex.move rfl) rfl ?_
    refine O.guard_t rfl rfl ?_
    refine O.ex (Ex.lss rfl rfl) rfl ?_
    refine O.ex (Ex.pick_t rfl rfl) rfl ?_
    refine O.ex (Ex.assign rfl) rfl ?_
    refine O.nil ?_
    refine hK1 _ _ _ ?_
    refine W.ret ?_
    try dsimp only [thenQ, blockQ, retQ]
    first | refine ⟨_, ⟨_, _, rfl, rfl, rfl⟩, ?_⟩ | (refine retD_mark ?_; intro w H; refine ⟨_, ⟨_, _, rfl, rfl, rfl⟩, ?_⟩) | (refine retD_mark2 ?_; intro w H; refine ⟨_, ⟨_, _, rfl, rfl, rfl⟩, ?_⟩)
    refine ⟨congrArg Value.bool ?_, Holds.to (by assumption)⟩
    first
    | exact decide_eq_decide.2 (by omega)
    | exact (decide_eq_false (by omega)).symm
  · refine O.guard_f rfl rfl rfl rfl ?_
    refine O.guard_f rfl rfl rfl rfl ?_
    refine O.ex (Ex.pick_f rfl rfl) rfl ?_
    refine O.ex (Ex.assign rfl) rfl ?_
    refine O.nil ?_
    refine hK1 _ _ _ ?_
    refine W.ret ?_
    try dsimp only [thenQ, blockQ, retQ]
    first | refine ⟨_, ⟨_, _, rfl, rfl, rfl⟩, ?_⟩ | (refine retD_mark ?_; intro w H; refine ⟨_, ⟨_, _, rfl, rfl, rfl⟩, ?_⟩) | (refine retD_mark2 ?_; intro w H; refine ⟨_, ⟨_, _, rfl, rfl, rfl⟩, ?_⟩)
    refine ⟨congrArg Value.bool ?_, Holds.to (by assumption)⟩
    first
    | exact decide_eq_decide.2 (by omega)
    | exact (decide_eq_false (by omega)).symm
theorem gvertexO_ct {w : World} {g ab cap : Nat} {n most k v : Int} {s : St} {L : List HProp} (hn : 0 ≤ n) (H : Holds w (gcel g s (avV ab cap n) k most :: L)) :
    CT Try.prog 57 [.pointer (some ⟨g, 0, none⟩), .int .i64 v] w fun u w' => u = .bool (decide (0 ≤ v ∧ v < n)) ∧ Holds w' (gcel g s (avV ab cap n) k most :: L) := by
  refine CT.enter (N := 16) Try.func57 rfl rfl rfl rfl ?_
  refine W.seq (fun K0 hK0 => ?_)
  refine W.region ?_
  refine O.ex (Ex.assign rfl) rfl ?_
  refine O.nil ?_
  refine hK0 _ _ _ ?_
  refine W.seq (fun K1 hK1 => ?_)
  refine W.region ?_
  refine O.ex (Ex.move rfl) rfl ?_
  refine O.ex (Ex.geq rfl rfl) rfl ?_
  refine O.ex (Ex.move rfl) rfl ?_
  first | refine O.split_p (t := 7) rfl (fun h0 => ?_) (fun h0 => ?_) | refine O.split (t := 7) rfl (fun h0 => ?_) (fun h0 => ?_)
  · refine O.guard_t rfl rfl ?_
    refine O.ex (Ex.move rfl) rfl ?_
    refine O.guard_t rfl rfl ?_
    refine O.ex (Ex.move rfl) rfl ?_
    refine O.guard_t rfl rfl ?_
    refine O.ex (by first | exact Ex.nilPtr rfl | exact Ex.nilFunc rfl | exact Ex.nilYield rfl) rfl ?_
    refine O.guard_t rfl rfl ?_
    refine O.ex (by first | exact Ex.field0 fld93_1 rfl | exact Ex.field fld93_1 rfl | exact Ex.fieldS fld93_1 rfl) rfl ?_
    refine O.guard_t rfl rfl ?_
    refine O.ex (by first | exact Ex.loadG1 Try.isAgg88 rfl | exact Ex.loadG2 Try.isAgg88 rfl | exact Ex.loadAt Try.isAgg88 rfl | exact Ex.loadCn Try.isAgg88 rfl | exact Ex.loadMo Try.isAgg88 rfl | exact Ex.loadE0 Try.isAgg88 rfl | exact Ex.loadE1 Try.isAgg88 rfl | exact Ex.loadP Try.isAgg88 rfl | exact Ex.loadR Try.isAgg88 rfl | exact Ex.loadIn1 Try.isAgg88 rfl (Holds.to (by assumption))) rfl ?_
    refine O.guard_t rfl rfl ?_
    refine O.ex (by first | exact Ex.lenN Try.runUnderlying88 rfl | exact Ex.lenIn Try.runUnderlying88 rfl | exact Ex.lenL Try.runUnderlying88 rfl | exact Ex.len rfl Try.runUnderlying88 rfl) rfl ?_
    refine O.guard_t rfl rfl ?_
    refine O.ex (Ex.lss rfl rfl) rfl ?_
    refine O.ex (Ex.pick_t rfl rfl) rfl ?_
    refine O.ex (Ex.assign rfl) rfl ?_
    refine O.nil ?_
    refine hK1 _ _ _ ?_
    refine W.ret ?_
    try dsimp only [thenQ, blockQ, retQ]
    first | refine ⟨_, ⟨_, _, rfl, rfl, rfl⟩, ?_⟩ | (refine retD_mark ?_; intro w H; refine ⟨_, ⟨_, _, rfl, rfl, rfl⟩, ?_⟩) | (refine retD_mark2 ?_; intro w H; refine ⟨_, ⟨_, _, rfl, rfl, rfl⟩, ?_⟩)
    refine ⟨congrArg Value.bool ?_, Holds.to (by assumption)⟩
    first
    | exact decide_eq_decide.2 (by omega)
    | exact (decide_eq_false (by omega)).symm
  · refine O.guard_f rfl rfl rfl rfl ?_
    refine O.guard_f rfl rfl rfl rfl ?_
    refine O.guard_f rfl rfl rfl rfl ?_
    refine O.guard_f rfl rfl rfl rfl ?_
    refine O.guard_f rfl rfl rfl rfl ?_
    refine O.guard_f rfl rfl rfl rfl ?_
    refine O.guard_f rfl rfl rfl rfl ?_
    refine O.ex (Ex.pick_f rfl rfl) rfl ?_
    refine O.ex (Ex.assign rfl) rfl ?_
    refine O.nil ?_
    refine hK1 _ _ _ ?_
    refine W.ret ?_
    try dsimp only [thenQ, blockQ, retQ]
    first | refine ⟨_, ⟨_, _, rfl, rfl, rfl⟩, ?_⟩ | (refine retD_mark ?_; intro w H; refine ⟨_, ⟨_, _, rfl, rfl, rfl⟩, ?_⟩) | (refine retD_mark2 ?_; intro w H; refine ⟨_, ⟨_, _, rfl, rfl, rfl⟩, ?_⟩)
    refine ⟨congrArg Value.bool ?_, Holds.to (by assumption)⟩
    first
    | exact decide_eq_decide.2 (by omega)
    | exact (decide_eq_false (by omega)).symm
theorem gwith_ct {w : World} {v : Value} {p q : Nat → Bool} {k : Nat} {L : List HProp} (hk : k < 64) (hp : p k = false) (hq : q k = true) (h : ∀ i, i ≠ k → p i = q i) (H : Holds w (arr 3 (Value.int .i64) v (lstP p) :: L)) :
    CT Try.prog 59 [v, .int .i64 (k : Int)] w fun u w' => u.oneCell' = true ∧ Holds w' (arr 3 (Value.int .i64) u (lstP q) :: L) := by
  have hl := lstP_len p
  refine CT.enter (N := 18) Try.func59 rfl rfl rfl rfl ?_
  refine W.seq (fun K0 hK0 => ?_)
  refine W.region ?_
  refine O.ex (Ex.assign rfl) rfl ?_
  refine O.nil ?_
  refine hK0 _ _ _ ?_
  refine W.seq (fun K1 hK1 => ?_)
  refine W.region ?_
  refine O.ex (Ex.move rfl) rfl ?_
  refine O.ex (Ex.move rfl) rfl ?_
  refine O.callF Try.call85 rfl rfl (CT.mono (search_ct (by omega) (lstP_sorted p) (Holds.to (by assumption))) ?_)
  rintro _ w ⟨i, f, rfl, hi, h1, h2, H⟩
  refine O.ex (Ex.move rfl) rfl ?_
  refine O.ex (Ex.extract rfl rfl) rfl ?_
  refine O.ex (Ex.extract rfl rfl) rfl ?_
  refine O.ex (Ex.assign rfl) rfl ?_
  refine O.ex (Ex.assign rfl) rfl ?_
  refine O.nil ?_
  refine hK1 _ _ _ ?_
  refine W.seq (fun K2 hK2 => ?_)
  refine W.region ?_
  refine O.ex (Ex.move rfl) rfl ?_
  refine O.ex (Ex.move rfl) rfl ?_
  refine O.ex (Ex.move rfl) rfl ?_
  refine O.build1 (e := Value.int .i64) Try.runUnderlying28 Try.sizeOf3 Try.zeroValue3 rfl (fun v16 w hv16 H => ?_)
  refine O.callF Try.call86 rfl rfl (CT.mono (insert_ct (xs := lstP p) (x := (k : Int)) (i := i) hi (by omega) (Holds.to (by assumption))) ?_)
  rintro _ w ⟨hu, H⟩
  rw [lstP_ins hk hp hq h hi h1 h2] at H
  refine O.ex (Ex.assign rfl) rfl ?_
  refine O.nil ?_
  refine hK2 _ _ _ ?_
  refine W.ret ?_
  try dsimp only [thenQ, blockQ, retQ]
  first | refine ⟨_, ⟨_, _, rfl, rfl, rfl⟩, ?_⟩ | (refine retD_mark ?_; intro w H; refine ⟨_, ⟨_, _, rfl, rfl, rfl⟩, ?_⟩) | (refine retD_mark2 ?_; intro w H; refine ⟨_, ⟨_, _, rfl, rfl, rfl⟩, ?_⟩)
  exact ⟨hu, Holds.to (by assumption)⟩
theorem gwithout_ct {w : World} {v : Value} {p q : Nat → Bool} {k : Nat} {L : List HProp} (hk : k < 64) (hp : p k = true) (hq : q k = false) (h : ∀ i, i ≠ k → p i = q i) (H : Holds w (arr 3 (Value.int .i64) v (lstP p) :: L)) :
    CT Try.prog 88 [v, .int .i64 (k : Int)] w fun u w' => u.oneCell' = true ∧ Holds w' (arr 3 (Value.int .i64) u (lstP q) :: L) := by
  have hl := lstP_len p
  refine CT.enter (N := 18) Try.func88 rfl rfl rfl rfl ?_
  refine W.seq (fun K0 hK0 => ?_)
  refine W.region ?_
  refine O.ex (Ex.assign rfl) rfl ?_
  refine O.nil ?_
  refine hK0 _ _ _ ?_
  refine W.seq (fun K1 hK1 => ?_)
  refine W.region ?_
  refine O.ex (Ex.move rfl) rfl ?_
  refine O.ex (Ex.move rfl) rfl ?_
  refine O.callF Try.call85 rfl rfl (CT.mono (search_ct (by omega) (lstP_sorted p) (Holds.to (by assumption))) ?_)
  rintro _ w ⟨i, f, rfl, hi, h1, h2, H⟩
  obtain ⟨hil, hdel⟩ := lstP_del hk hp hq h hi h1 h2
  refine O.ex (Ex.move rfl) rfl ?_
  refine O.ex (Ex.extract rfl rfl) rfl ?_
  refine O.ex (Ex.extract rfl rfl) rfl ?_
  refine O.ex (Ex.assign rfl) rfl ?_
  refine O.ex (Ex.assign rfl) rfl ?_
  refine O.nil ?_
  refine hK1 _ _ _ ?_
  refine W.seq (fun K2 hK2 => ?_)
  refine W.region ?_
  refine O.ex (Ex.move rfl) rfl ?_
  refine O.ex (Ex.move rfl) rfl ?_
  refine O.ex (Ex.move rfl) rfl ?_
  refine O.ex (by first | exact Ex.addI rfl rfl | exact Ex.add rfl rfl rfl) rfl ?_
  refine O.callF Try.call110 rfl rfl (CT.mono (del_ct (xs := lstP p) (i := (i : Int)) (Holds.to (by assumption)) (by omega) (by omega) (by omega)) ?_)
  rintro _ w ⟨hu, H⟩
  rw [Int.toNat_natCast, hdel] at H
  refine O.ex (Ex.assign rfl) rfl ?_
  refine O.nil ?_
  refine hK2 _ _ _ ?_
  refine W.ret ?_
  try dsimp only [thenQ, blockQ, retQ]
  first | refine ⟨_, ⟨_, _, rfl, rfl, rfl⟩, ?_⟩ | (refine retD_mark ?_; intro w H; refine ⟨_, ⟨_, _, rfl, rfl, rfl⟩, ?_⟩) | (refine retD_mark2 ?_; intro w H; refine ⟨_, ⟨_, _, rfl, rfl, rfl⟩, ?_⟩)
  exact ⟨hu, Holds.to (by assumption)⟩
theorem withI_ct {w : World} {v : Value} {p q : Nat → Bool} {id : Int} {L : List HProp} (h0 : 0 ≤ id) (h1 : id < 64) (hp : p id.toNat = false) (hq : q id.toNat = true) (h : ∀ i, i ≠ id.toNat → p i = q i) (H : Holds w (arr 3 (Value.int .i64) v (lstP p) :: L)) :
    CT Try.prog 59 [v, .int .i64 id] w fun u w' => u.oneCell' = true ∧ Holds w' (arr 3 (Value.int .i64) u (lstP q) :: L) := by
  have := gwith_ct (k := id.toNat) (by omega) hp hq h H
  rwa [Int.toNat_of_nonneg h0] at this
theorem withoutI_ct {w : World} {v : Value} {p q : Nat → Bool} {id : Int} {L : List HProp} (h0 : 0 ≤ id) (h1 : id < 64) (hp : p id.toNat = true) (hq : q id.toNat = false) (h : ∀ i, i ≠ id.toNat → p i = q i) (H : Holds w (arr 3 (Value.int .i64) v (lstP p) :: L)) :
    CT Try.prog 88 [v, .int .i64 id] w fun u w' => u.oneCell' = true ∧ Holds w' (arr 3 (Value.int .i64) u (lstP q) :: L) := by
  have := gwithout_ct (k := id.toNat) (by omega) hp hq h H
  rwa [Int.toNat_of_nonneg h0] at this
section
variable {w : World} {n : Nat} {t : Int} {es : Nat → Value × Value} {u : Value} {so so' si si' : St} {L : List HProp}
theorem big_takeE (h0 : 0 ≤ t) (h1 : t.toNat < n) (H : Holds w (big (endF es so si) (List.range n) :: L)) : Holds w (arr 3 (Value.int .i64) (es t.toNat).1 (lstP (outP so t)) :: arr 3 (Value.int .i64) (es t.toNat).2 (lstP (inP si t)) :: bigBut (endF es so si) (List.range n) t.toNat :: L) := by
  have := endF_open.1 (big_take h1 H)
  rw [Int.toNat_of_nonneg h0] at this
  exact this
theorem big_putE (h0 : 0 ≤ t) (h1 : t.toNat < n) (H : Holds w (arr 3 (Value.int .i64) (es t.toNat).1 (lstP (outP so t)) :: arr 3 (Value.int .i64) (es t.toNat).2 (lstP (inP si t)) :: bigBut (endF es so si) (List.range n) t.toNat :: L)) : Holds w (big (endF es so si) (List.range n) :: L) := by
  refine big_put h1 (endF_open.2 ?_)
  rw [Int.toNat_of_nonneg h0]
  exact H
theorem upE_same {i : Nat} {p : Value × Value} : upE es i p i = p := if_pos rfl
theorem upE_other {i k : Nat} {p : Value × Value} (h : k ≠ i) : upE es i p k = es k := if_neg h
theorem big_out (h0 : 0 ≤ t) (h1 : t.toNat < n) (ho : ∀ v, v ≠ t → outI so' v = outI so v) (H : Holds w (arr 3 (Value.int .i64) u (lstP (outP so' t)) :: arr 3 (Value.int .i64) (es t.toNat).2 (lstP (inP si t)) :: bigBut (endF es so si) (List.range n) t.toNat :: L)) :
    Holds w (big (endF (upE es t.toNat (u, (es t.toNat).2)) so' si) (List.range n) :: L) := by
  refine big_putE h0 h1 ?_
  rw [upE_same, bigBut_congr (g := endF es so si) (fun k _ hk => by unfold endF; rw [upE_other hk, ho (k : Int) (by omega)])]
  exact H
theorem big_in (h0 : 0 ≤ t) (h1 : t.toNat < n) (ho : ∀ v, v ≠ t → inI si' v = inI si v) (H : Holds w (arr 3 (Value.int .i64) (es t.toNat).1 (lstP (outP so t)) :: arr 3 (Value.int .i64) u (lstP (inP si' t)) :: bigBut (endF es so si) (List.range n) t.toNat :: L)) :
    Holds w (big (endF (upE es t.toNat ((es t.toNat).1, u)) so si') (List.range n) :: L) := by
  refine big_putE h0 h1 ?_
  rw [upE_same, bigBut_congr (g := endF es so si) (fun k _ hk => by unfold endF; rw [upE_other hk, ho (k : Int) (by omega)])]
  exact H
end
theorem weight_ct {w : World} {a : Int} {L : List HProp} (H : Holds w L) : CT Try.prog 58 [.int .i64 a] w fun u w' => u = .bool (decide (wOk a)) ∧ Holds w' L := by
  refine CT.enter (N := 9) Try.func58 rfl rfl rfl rfl ?_
  refine W.seq (fun K0 hK0 => ?_)
  refine W.region ?_
  refine O.ex (Ex.assign rfl) rfl ?_
  refine O.nil ?_
  refine hK0 _ _ _ ?_
  refine W.seq (fun K1 hK1 => ?_)
  refine W.region ?_
  refine O.ex (Ex.move rfl) rfl ?_
  refine O.ex (Ex.geq rfl rfl) rfl ?_
  refine O.ex (Ex.move rfl) rfl ?_
  first | refine O.split_p (t := 5) rfl (fun h0 => ?_) (fun h0 => ?_) | refine O.split (t := 5) rfl (fun h0 => ?_) (fun h0 => ?_)
  · refine O.guard_t rfl rfl ?_
    refine O.ex (Ex.move rfl) rfl ?_
    refine O.guard_t rfl rfl ?_
    refine O.ex (Ex.leq rfl rfl) rfl ?_
    refine O.ex (Ex.pick_t rfl rfl) rfl ?_
    refine O.ex (Ex.assign rfl) rfl ?_
    refine O.nil ?_
    refine hK1 _ _ _ ?_
    refine W.ret ?_
    try dsimp only [thenQ, blockQ, retQ]
    first | refine ⟨_, ⟨_, _, rfl, rfl, rfl⟩, ?_⟩ | (refine retD_mark ?_; intro w H; refine ⟨_, ⟨_, _, rfl, rfl, rfl⟩, ?_⟩) | (refine retD_mark2 ?_; intro w H; refine ⟨_, ⟨_, _, rfl, rfl, rfl⟩, ?_⟩)
    refine ⟨congrArg Value.bool ?_, Holds.to (by assumption)⟩
    first
    | exact decide_eq_decide.2 (by unfold wOk; omega)
    | exact (decide_eq_false (by unfold wOk; omega)).symm
  · refine O.guard_f rfl rfl rfl rfl ?_
    refine O.guard_f rfl rfl rfl rfl ?_
    refine O.ex (Ex.pick_f rfl rfl) rfl ?_
    refine O.ex (Ex.assign rfl) rfl ?_
    refine O.nil ?_
    refine hK1 _ _ _ ?_
    refine W.ret ?_
    try dsimp only [thenQ, blockQ, retQ]
    first | refine ⟨_, ⟨_, _, rfl, rfl, rfl⟩, ?_⟩ | (refine retD_mark ?_; intro w H; refine ⟨_, ⟨_, _, rfl, rfl, rfl⟩, ?_⟩) | (refine retD_mark2 ?_; intro w H; refine ⟨_, ⟨_, _, rfl, rfl, rfl⟩, ?_⟩)
    refine ⟨congrArg Value.bool ?_, Holds.to (by assumption)⟩
    first
    | exact decide_eq_decide.2 (by unfold wOk; omega)
    | exact (decide_eq_false (by unfold wOk; omega)).symm
end Go.Proofs.Ytliofdfhimmjmaa
