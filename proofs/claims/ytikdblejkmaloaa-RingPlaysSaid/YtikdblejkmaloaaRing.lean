import Derived.Test.YtikdblejkmaloaaFacts
namespace Go.Proofs.Ytikdblejkmaloaa
open Go.Rr
set_option linter.unusedVariables false
theorem md {a k : Int} (h0 : 0 ≤ a) (hk : 0 < k) (h1 : a < 2 * k) : a % k = if a < k then a else a - k := by
  split
  · exact Int.emod_eq_of_lt h0 (by assumption)
  · rw [← Int.sub_emod_right a k]; exact Int.emod_eq_of_lt (by omega) (by omega)
theorem getD_setR {α : Type} (l : List α) (i j : Nat) (x d : α) (h : i < l.length) : (l.set i x).getD j d = if j = i then x else l.getD j d := by
  simp only [List.getD_eq_getElem?_getD, List.getElem?_set]
  by_cases e : i = j
  · subst e; simp [h]
  · simp [e, Ne.symm e]
/-- What lies on the stack, from the oldest on; where it lies. -/
structure Rep {α : Type} [Inhabited α] (at_ : List α) (f : Int) (xs : List α) (k : Nat) : Prop where
  k0 : 0 < k
  k1 : k ≤ 32
  la : at_.length = k
  f0 : 0 ≤ f
  f1 : f < k
  lx : xs.length ≤ k
  get : ∀ i : Nat, i < xs.length → at_.getD ((f + i) % k).toNat default = xs.getD i default
section
variable {α : Type} [Inhabited α] {at_ : List α} {f : Int} {xs : List α} {k : Nat}
theorem Rep.new (z : α) (h0 : 0 < k) (h1 : k ≤ 32) : Rep (List.replicate k z) 0 ([] : List α) k :=
  ⟨h0, h1, by simp, by omega, by omega, by simp, fun i h => by simp at h⟩
theorem Rep.ix (h : Rep at_ f xs k) (i : Int) (h0 : 0 ≤ i) (h1 : i < k) : 0 ≤ (f + i) % k ∧ (f + i) % k < k :=
  ⟨Int.emod_nonneg _ (by have := h.k0; omega), Int.emod_lt_of_pos _ (by have := h.k0; omega)⟩
theorem Rep.ixn (h : Rep at_ f xs k) (hlt : xs.length < k) : 0 ≤ (f + xs.length) % k ∧ (f + xs.length) % k < k := h.ix _ (by omega) (by omega)
theorem Rep.push (h : Rep at_ f xs k) (v : α) (hn : xs.length < k) : Rep (at_.set ((f + xs.length) % k).toNat v) f (xs ++ [v]) k := by
  have hk := h.k0
  have hf := h.f0
  have hf1 := h.f1
  have e1 := md (a := f + (xs.length : Int)) (k := k) (by omega) (by omega) (by omega)
  refine ⟨h.k0, h.k1, by simp [h.la], h.f0, h.f1, by simp; omega, fun i hi => ?_⟩
  simp only [List.length_append, List.length_cons, List.length_nil] at hi
  have e2 := md (a := f + (i : Int)) (k := k) (by omega) (by omega) (by omega)
  rw [getD_setR _ _ _ _ _ (by rw [h.la, e1]; split <;> omega)]
  rcases Nat.lt_or_ge i xs.length with hlt | hge
  · rw [if_neg (by rw [e1, e2]; split <;> split <;> omega), h.get i hlt]
    simp [List.getD_eq_getElem?_getD, List.getElem?_append_left hlt]
  · obtain rfl : i = xs.length := by omega
    rw [if_pos rfl]
    simp [List.getD_eq_getElem?_getD]
theorem Rep.tail {x : α} (h : Rep at_ f (x :: xs) k) (z : α) : at_.getD f.toNat default = x ∧ Rep (at_.set f.toNat z) ((f + 1) % k) xs k := by
  have hk := h.k0
  have hf := h.f0
  have hf1 := h.f1
  have hlx := h.lx
  simp only [List.length_cons] at hlx
  constructor
  · have := h.get 0 (by simp)
    rw [md (by omega) (by omega) (by omega), if_pos (by omega)] at this
    simpa using this
  · have ix := h.ix 1 (by omega) 
    have e1 := md (a := f + 1) (k := k) (by omega) (by omega) (by omega)
    refine ⟨h.k0, h.k1, by simp [h.la], by rw [e1]; split <;> omega, by rw [e1]; split <;> omega, by omega, fun i hi => ?_⟩
    have e2 := md (a := f + ((i + 1 : Nat) : Int)) (k := k) (by omega) (by omega) (by omega)
    have e3 : ((f + 1) % k + i) % k = (f + ((i + 1 : Nat) : Int)) % k := by
      rw [e1, e2]; rw [md (by split <;> omega) (by omega) (by split <;> omega)]; (repeat' split) <;> omega
    rw [getD_setR _ _ _ _ _ (by rw [h.la]; omega), e3, if_neg (by rw [e2]; split <;> omega), h.get (i + 1) (by simpa using hi)]
    simp
theorem Rep.last {x : α} (h : Rep at_ f (xs ++ [x]) k) (z : α) : at_.getD ((f + xs.length) % k).toNat default = x ∧ Rep (at_.set ((f + xs.length) % k).toNat z) f xs k := by
  have hk := h.k0
  have hf := h.f0
  have hf1 := h.f1
  have hlx := h.lx
  simp only [List.length_append, List.length_cons, List.length_nil] at hlx
  have e1 := md (a := f + (xs.length : Int)) (k := k) (by omega) (by omega) (by omega)
  constructor
  · have := h.get xs.length (by simp)
    simpa [List.getD_eq_getElem?_getD] using this
  · refine ⟨h.k0, h.k1, by simp [h.la], h.f0, h.f1, by omega, fun i hi => ?_⟩
    have e2 := md (a := f + (i : Int)) (k := k) (by omega) (by omega) (by omega)
    rw [getD_setR _ _ _ _ _ (by rw [h.la, e1]; split <;> omega), if_neg (by rw [e1, e2]; split <;> split <;> omega), h.get i (by simp; omega)]
    simp [List.getD_eq_getElem?_getD, List.getElem?_append_left hi]
end
theorem placeI_ct {w : World} {s : Nat} {vv : Value} {at_ : List Int} {f n i : Int} {L : List HProp} (H : Holds w (pt s (.cells #[vv, .int .i64 f, .int .i64 n] 92 (0, 0)) :: arr 3 (Value.int .i64) vv at_ :: L)) (h0 : 0 < at_.length) (h1 : at_.length ≤ 1000) (f0 : 0 ≤ f) (f1 : f ≤ 1000) (i0 : 0 ≤ i) (i1 : i ≤ 1000) {k : Nat} (hk : at_.length = k) :
    CT Try.prog 54 [.pointer (some ⟨s, 0, none⟩), .int .i64 i] w fun u w' => u = .int .i64 ((f + i) % k) ∧ Holds w' (pt s (.cells #[vv, .int .i64 f, .int .i64 n] 92 (0, 0)) :: arr 3 (Value.int .i64) vv at_ :: L) := by
  subst hk
  refine CT.enter (N := 17) Try.func54 rfl rfl rfl rfl ?_
  refine W.seq (fun K0 hK0 => ?_)
  refine W.region ?_
  refine O.ex (Ex.assign rfl) rfl ?_
  refine O.nil ?_
  refine hK0 _ _ _ ?_
  refine W.seq (fun K1 hK1 => ?_)
  refine W.drawTo _ (.take 0 (.take 1 (.take 2 (.take 3 (.take 4 (.take 5 (.take 6 (.take 7 (.take 8 (.take 9 (.take 10 (.take 11 (.take 12 .nil))))))))))))) (mixed) (fun _ _ _ _ h => h) (by assumption) (PP.refl _) (by decide +kernel) (fun w H => ?_)
  refine OQ.ex rfl (fun w H => (Ex.move rfl)) rfl ?_
  refine OQ.ex rfl (fun w H => (by first | exact Ex.nilPtr rfl | exact Ex.nilFunc rfl | exact Ex.nilYield rfl)) rfl ?_
  refine OQ.ex rfl (fun w H => (by first | exact Ex.field0 fld92_1 rfl | exact Ex.field fld92_1 rfl | exact Ex.fieldS fld92_1 rfl)) rfl ?_
  refine OQ.ex rfl (fun w H => (by first | exact Ex.loadP Try.isAgg3 rfl | exact Ex.loadR Try.isAgg3 rfl | exact Ex.loadIn1 Try.isAgg3 rfl (Holds.to (by assumption)))) rfl ?_
  refine OQ.ex rfl (fun w H => (Ex.move rfl)) rfl ?_
  refine OQ.ex rfl (fun w H => (by first | exact Ex.addI rfl rfl | exact Ex.add rfl rfl rfl)) rfl ?_
  refine OQ.ex rfl (fun w H => (Ex.move rfl)) rfl ?_
  refine OQ.ex rfl (fun w H => (by first | exact Ex.nilPtr rfl | exact Ex.nilFunc rfl | exact Ex.nilYield rfl)) rfl ?_
  refine OQ.ex rfl (fun w H => (by first | exact Ex.field0 fld92_0 rfl | exact Ex.field fld92_0 rfl | exact Ex.fieldS fld92_0 rfl)) rfl ?_
  refine OQ.ex rfl (fun w H => (by first | exact Ex.loadP Try.isAgg52 rfl | exact Ex.loadR Try.isAgg52 rfl | exact Ex.loadIn1 Try.isAgg52 rfl (Holds.to (by assumption)))) rfl ?_
  refine OQ.ex rfl (fun w H => (by first | exact Ex.lenR Try.runUnderlying52 rfl | exact Ex.lenIn Try.runUnderlying52 rfl | exact Ex.lenL Try.runUnderlying52 rfl | exact Ex.len rfl Try.runUnderlying52 rfl)) rfl ?_
  refine OQ.ex rfl (fun w H => (by first | exact Ex.remI rfl rfl | exact Ex.rem rfl rfl (by omega) rfl)) rfl ?_
  refine OQ.ex rfl (fun w H => (Ex.assign rfl)) rfl ?_
  refine OQ.done ?_
  refine hK1 _ _ _ ?_
  refine W.ret ?_
  try dsimp only [thenQ, blockQ, retQ]
  first | refine ⟨_, ⟨_, _, rfl, rfl, rfl⟩, ?_⟩ | (refine retD_mark ?_; intro w H; refine ⟨_, ⟨_, _, rfl, rfl, rfl⟩, ?_⟩) | (refine retD_mark2 ?_; intro w H; refine ⟨_, ⟨_, _, rfl, rfl, rfl⟩, ?_⟩)
  exact ⟨rfl, by first | assumption | exact Holds.to (by assumption)⟩
theorem out1I_ct {w : World} {vv : Value} {at_ : List Int} {j : Nat} {L : List HProp} (H : Holds w (arr 3 (Value.int .i64) vv at_ :: L)) (h : j < at_.length) :
    CT Try.prog 59 [.pointer (some (aAt vv j))] w fun u w' => u = .int .i64 (at_.getD j default) ∧ Holds w' (arr 3 (Value.int .i64) vv (at_.set j (0 : Int)) :: L) := by
  refine CT.enter (N := 12) Try.func59 rfl rfl rfl rfl ?_
  refine W.seq (fun K0 hK0 => ?_)
  refine W.region ?_
  refine O.ex (Ex.assign rfl) rfl ?_
  refine O.nil ?_
  refine hK0 _ _ _ ?_
  refine W.seq (fun K1 hK1 => ?_)
  refine W.region ?_
  refine O.ex (Ex.assign rfl) rfl ?_
  refine O.nil ?_
  refine hK1 _ _ _ ?_
  refine W.seq (fun K2 hK2 => ?_)
  refine W.region ?_
  refine O.ex (Ex.move rfl) rfl ?_
  refine O.ex (by first | exact Ex.nilPtr rfl | exact Ex.nilFunc rfl | exact Ex.nilYield rfl) rfl ?_
  refine O.ex (by first | exact Ex.loadP Try.isAgg3 rfl | exact Ex.loadR Try.isAgg3 rfl | exact Ex.loadIn1 Try.isAgg3 rfl (Holds.to (by assumption))) rfl ?_
  refine O.ex (Ex.assign rfl) rfl ?_
  refine O.nil ?_
  refine hK2 _ _ _ ?_
  refine W.seq (fun K3 hK3 => ?_)
  refine W.region ?_
  refine O.ex (Ex.move rfl) rfl ?_
  refine O.ex (Ex.move rfl) rfl ?_
  refine O.ex (by first | exact Ex.nilPtr rfl | exact Ex.nilFunc rfl | exact Ex.nilYield rfl) rfl ?_
  first | refine O.storeP Try.sizeOf3 rfl rfl (fun w H => ?_) | refine O.storeR Try.sizeOf3 rfl rfl (fun w H => ?_)
  refine O.nil ?_
  refine hK3 _ _ _ ?_
  refine W.seq (fun K4 hK4 => ?_)
  refine W.region ?_
  refine O.ex (Ex.move rfl) rfl ?_
  refine O.ex (Ex.assign rfl) rfl ?_
  refine O.nil ?_
  refine hK4 _ _ _ ?_
  refine W.ret ?_
  try dsimp only [thenQ, blockQ, retQ]
  first | refine ⟨_, ⟨_, _, rfl, rfl, rfl⟩, ?_⟩ | (refine retD_mark ?_; intro w H; refine ⟨_, ⟨_, _, rfl, rfl, rfl⟩, ?_⟩) | (refine retD_mark2 ?_; intro w H; refine ⟨_, ⟨_, _, rfl, rfl, rfl⟩, ?_⟩)
  exact ⟨rfl, by first | assumption | exact Holds.to (by assumption)⟩
theorem outI_ct {w : World} {s : Nat} {vv a b : Value} {at_ : List Int} {i : Int} {L : List HProp} (H : Holds w (pt s (.cells #[vv, a, b] 92 (0, 0)) :: arr 3 (Value.int .i64) vv at_ :: L)) (h0 : 0 ≤ i) (h1 : i < at_.length) :
    CT Try.prog 53 [.pointer (some ⟨s, 0, none⟩), .int .i64 i] w fun u w' => u = .int .i64 (at_.getD i.toNat default) ∧ Holds w' (pt s (.cells #[vv, a, b] 92 (0, 0)) :: arr 3 (Value.int .i64) vv (at_.set i.toNat (0 : Int)) :: L) := by
  refine CT.enter (N := 14) Try.func53 rfl rfl rfl rfl ?_
  refine W.seq (fun K0 hK0 => ?_)
  refine W.region ?_
  refine O.ex (Ex.assign rfl) rfl ?_
  refine O.nil ?_
  refine hK0 _ _ _ ?_
  refine W.seq (fun K1 hK1 => ?_)
  refine W.region ?_
  refine O.ex (Ex.assign rfl) rfl ?_
  refine O.nil ?_
  refine hK1 _ _ _ ?_
  refine W.seq (fun K2 hK2 => ?_)
  refine W.region ?_
  refine O.ex (Ex.move rfl) rfl ?_
  refine O.ex (Ex.move rfl) rfl ?_
  refine O.ex (by first | exact Ex.nilPtr rfl | exact Ex.nilFunc rfl | exact Ex.nilYield rfl) rfl ?_
  refine O.ex (by first | exact Ex.field0 fld92_0 rfl | exact Ex.field fld92_0 rfl | exact Ex.fieldS fld92_0 rfl) rfl ?_
  refine O.ex (by first | exact Ex.loadP Try.isAgg52 rfl | exact Ex.loadR Try.isAgg52 rfl | exact Ex.loadIn1 Try.isAgg52 rfl (Holds.to (by assumption))) rfl ?_
  refine O.ex (Ex.move rfl) rfl ?_
  refine O.ex (by first | exact Ex.idxR Try.runUnderlying52 Try.sizeOf3 rfl rfl | exact Ex.idxIn Try.runUnderlying52 Try.sizeOf3 rfl rfl | exact Ex.idxS Try.runUnderlying52 Try.sizeOf3 rfl rfl | exact Ex.idx Try.runUnderlying52 Try.sizeOf3 rfl rfl (by omega) (by omega)) rfl ?_
  refine O.callV Try.call59 rfl rfl rfl (CT.mono (out1I_ct (Holds.to (by assumption)) (by omega)) ?_)
  rintro _ w ⟨rfl, H⟩
  refine O.ex (Ex.assign rfl) rfl ?_
  refine O.nil ?_
  refine hK2 _ _ _ ?_
  refine W.ret ?_
  try dsimp only [thenQ, blockQ, retQ]
  first | refine ⟨_, ⟨_, _, rfl, rfl, rfl⟩, ?_⟩ | (refine retD_mark ?_; intro w H; refine ⟨_, ⟨_, _, rfl, rfl, rfl⟩, ?_⟩) | (refine retD_mark2 ?_; intro w H; refine ⟨_, ⟨_, _, rfl, rfl, rfl⟩, ?_⟩)
  exact ⟨rfl, by first | assumption | exact Holds.to (by assumption)⟩
def RgOI (s : Nat) (vv : Value) (at_ : List Int) (f n : Int) : HProp := star [pt s (.cells #[vv, .int .i64 f, .int .i64 n] 92 (0, 0)), arr 3 (Value.int .i64) vv at_]
theorem rgOI_open {w : World} {s : Nat} {vv : Value} {at_ : List Int} {f n : Int} {L : List HProp} : Holds w (RgOI s vv at_ f n :: L) ↔ Holds w (pt s (.cells #[vv, .int .i64 f, .int .i64 n] 92 (0, 0)) :: arr 3 (Value.int .i64) vv at_ :: L) := by
  unfold RgOI
  simp only [Holds.star, List.cons_append, List.nil_append]
def RgI (s k : Nat) (xs : List Int) : HProp := hex fun vv => hex fun at_ => hex fun f => star [hp (Rep at_ f xs k), RgOI s vv at_ f xs.length]
theorem rgI_open {w : World} {s k : Nat} {xs : List Int} {L : List HProp} : Holds w (RgI s k xs :: L) ↔ ∃ vv at_ f, Rep at_ f xs k ∧ Holds w (RgOI s vv at_ f xs.length :: L) := by
  unfold RgI
  simp only [Holds.hex, Holds.star, List.cons_append, List.nil_append, Holds.hp]
theorem lenIG_ct {w : World} {s k : Nat} {xs : List Int} {L : List HProp} (H : Holds w (RgI s k xs :: L)) :
    CT Try.prog 35 [.pointer (some ⟨s, 0, none⟩)] w fun u w' => u = .int .i64 xs.length ∧ Holds w' (RgI s k xs :: L) := by
  obtain ⟨vv, at_, f, hr, H⟩ := rgI_open.1 H
  have H := rgOI_open.1 H
  refine CT.enter (N := 7) Try.func35 rfl rfl rfl rfl ?_
  refine W.seq (fun K0 hK0 => ?_)
  refine W.region ?_
  refine O.ex (Ex.assign rfl) rfl ?_
  refine O.nil ?_
  refine hK0 _ _ _ ?_
  refine W.seq (fun K1 hK1 => ?_)
  refine W.region ?_
  refine O.ex (Ex.move rfl) rfl ?_
  refine O.ex (by first | exact Ex.nilPtr rfl | exact Ex.nilFunc rfl | exact Ex.nilYield rfl) rfl ?_
  refine O.ex (by first | exact Ex.field0 fld92_2 rfl | exact Ex.field fld92_2 rfl | exact Ex.fieldS fld92_2 rfl) rfl ?_
  refine O.ex (by first | exact Ex.loadP Try.isAgg3 rfl | exact Ex.loadR Try.isAgg3 rfl | exact Ex.loadIn1 Try.isAgg3 rfl (Holds.to (by assumption))) rfl ?_
  refine O.ex (Ex.assign rfl) rfl ?_
  refine O.nil ?_
  refine hK1 _ _ _ ?_
  refine W.ret ?_
  try dsimp only [thenQ, blockQ, retQ]
  first | refine ⟨_, ⟨_, _, rfl, rfl, rfl⟩, ?_⟩ | (refine retD_mark ?_; intro w H; refine ⟨_, ⟨_, _, rfl, rfl, rfl⟩, ?_⟩) | (refine retD_mark2 ?_; intro w H; refine ⟨_, ⟨_, _, rfl, rfl, rfl⟩, ?_⟩)
  exact ⟨rfl, rgI_open.2 ⟨vv, at_, f, hr, rgOI_open.2 (Holds.to (by assumption))⟩⟩
theorem roomIG_ct {w : World} {s k : Nat} {xs : List Int} {L : List HProp} (H : Holds w (RgI s k xs :: L)) :
    CT Try.prog 36 [.pointer (some ⟨s, 0, none⟩)] w fun u w' => u = .int .i64 k ∧ Holds w' (RgI s k xs :: L) := by
  obtain ⟨vv, at_, f, hr, H⟩ := rgI_open.1 H
  have H := rgOI_open.1 H
  refine CT.enter (N := 8) Try.func36 rfl rfl rfl rfl ?_
  refine W.seq (fun K0 hK0 => ?_)
  refine W.region ?_
  refine O.ex (Ex.assign rfl) rfl ?_
  refine O.nil ?_
  refine hK0 _ _ _ ?_
  refine W.seq (fun K1 hK1 => ?_)
  refine W.region ?_
  refine O.ex (Ex.move rfl) rfl ?_
  refine O.ex (by first | exact Ex.nilPtr rfl | exact Ex.nilFunc rfl | exact Ex.nilYield rfl) rfl ?_
  refine O.ex (by first | exact Ex.field0 fld92_0 rfl | exact Ex.field fld92_0 rfl | exact Ex.fieldS fld92_0 rfl) rfl ?_
  refine O.ex (by first | exact Ex.loadP Try.isAgg52 rfl | exact Ex.loadR Try.isAgg52 rfl | exact Ex.loadIn1 Try.isAgg52 rfl (Holds.to (by assumption))) rfl ?_
  refine O.ex (by first | exact Ex.lenR Try.runUnderlying52 rfl | exact Ex.lenIn Try.runUnderlying52 rfl | exact Ex.lenL Try.runUnderlying52 rfl | exact Ex.len rfl Try.runUnderlying52 rfl) rfl ?_
  refine O.ex (Ex.assign rfl) rfl ?_
  refine O.nil ?_
  refine hK1 _ _ _ ?_
  refine W.ret ?_
  try dsimp only [thenQ, blockQ, retQ]
  first | refine ⟨_, ⟨_, _, rfl, rfl, rfl⟩, ?_⟩ | (refine retD_mark ?_; intro w H; refine ⟨_, ⟨_, _, rfl, rfl, rfl⟩, ?_⟩) | (refine retD_mark2 ?_; intro w H; refine ⟨_, ⟨_, _, rfl, rfl, rfl⟩, ?_⟩)
  exact ⟨by simp only [oneOf, hr.la], rgI_open.2 ⟨vv, at_, f, hr, rgOI_open.2 (Holds.to (by assumption))⟩⟩
theorem newIG_ct {w : World} {n : Int} {L : List HProp} (H : Holds w L) :
    CT Try.prog 28 [.int .i64 n] w fun u w' => (¬ (1 ≤ n ∧ n ≤ 32) ∧ u = .tuple #[.pointer none, .int .i64 1] ∧ Holds w' L) ∨
      ((1 ≤ n ∧ n ≤ 32) ∧ ∃ s, u = .tuple #[.pointer (some ⟨s, 0, none⟩), .int .i64 0] ∧ Holds w' (RgI s n.toNat ([] : List Int) :: L)) := by
  refine CT.enter (N := 14) Try.func28 rfl rfl rfl rfl ?_
  refine W.seq (fun K0 hK0 => ?_)
  refine W.region ?_
  refine O.ex (Ex.assign rfl) rfl ?_
  refine O.ex (Ex.assign rfl) rfl ?_
  refine O.nil ?_
  refine hK0 _ _ _ ?_
  refine W.seq (fun K1 hK1 => ?_)
  refine W.seq (fun K2 hK2 => ?_)
  refine W.region ?_
  refine O.ex (Ex.move rfl) rfl ?_
  refine O.ex (Ex.lss rfl rfl) rfl ?_
  refine O.ex (Ex.move rfl) rfl ?_
  first | refine O.split_p (t := 6) rfl (fun h6 => ?_) (fun h6 => ?_) | refine O.split (t := 6) rfl (fun h6 => ?_) (fun h6 => ?_)
  · refine O.guard_f rfl rfl rfl rfl ?_
    refine O.guard_f rfl rfl rfl rfl ?_
    refine O.ex (Ex.pick_t rfl rfl) rfl ?_
    refine O.nil ?_
    refine hK2 _ _ _ ?_
    refine W.cond_t rfl ?_
    refine W.seq (fun K3 hK3 => ?_)
    refine W.region ?_
    refine O.ex (Ex.assign rfl) rfl ?_
    refine O.ex (Ex.assign rfl) rfl ?_
    refine O.nil ?_
    refine hK3 _ _ _ ?_
    refine W.ret ?_
    try dsimp only [thenQ, blockQ, retQ]
    first | refine ⟨_, ⟨_, _, rfl, rfl, _, _, rfl, rfl, rfl⟩, ?_⟩ | (refine retD_mark ?_; intro w H; refine ⟨_, ⟨_, _, rfl, rfl, _, _, rfl, rfl, rfl⟩, ?_⟩) | (refine retD_mark2 ?_; intro w H; refine ⟨_, ⟨_, _, rfl, rfl, _, _, rfl, rfl, rfl⟩, ?_⟩)
    first
    | exact .inl ⟨by omega, rfl, by assumption⟩
    | exact .inr ⟨by omega, _, rfl, rgI_open.2 ⟨_, _, 0, Rep.new (0 : Int) (by omega) (by omega), rgOI_open.2 (Holds.to (by assumption))⟩⟩
  · refine O.guard_t rfl rfl ?_
    refine O.ex (Ex.move rfl) rfl ?_
    refine O.guard_t rfl rfl ?_
    refine O.ex (Ex.gtr rfl rfl) rfl ?_
    refine O.ex (Ex.pick_f rfl rfl) rfl ?_
    refine O.nil ?_
    refine hK2 _ _ _ ?_
    first | refine W.cond_p rfl (fun h9 => ?_) (fun h9 => ?_) | refine W.cond_b rfl (fun h9 => ?_) (fun h9 => ?_)
    · refine W.seq (fun K4 hK4 => ?_)
      refine W.region ?_
      refine O.ex (Ex.assign rfl) rfl ?_
      refine O.ex (Ex.assign rfl) rfl ?_
      refine O.nil ?_
      refine hK4 _ _ _ ?_
      refine W.ret ?_
      try dsimp only [thenQ, blockQ, retQ]
      first | refine ⟨_, ⟨_, _, rfl, rfl, _, _, rfl, rfl, rfl⟩, ?_⟩ | (refine retD_mark ?_; intro w H; refine ⟨_, ⟨_, _, rfl, rfl, _, _, rfl, rfl, rfl⟩, ?_⟩) | (refine retD_mark2 ?_; intro w H; refine ⟨_, ⟨_, _, rfl, rfl, _, _, rfl, rfl, rfl⟩, ?_⟩)
      first
      | exact .inl ⟨by omega, rfl, by assumption⟩
      | exact .inr ⟨by omega, _, rfl, rgI_open.2 ⟨_, _, 0, Rep.new (0 : Int) (by omega) (by omega), rgOI_open.2 (Holds.to (by assumption))⟩⟩
    · refine W.skip ?_
      refine hK1 _ _ _ ?_
      refine W.seq (fun K5 hK5 => ?_)
      refine W.region ?_
      refine O.ex (Ex.move rfl) rfl ?_
      refine O.makeR (0 : Int) (e := Value.int .i64) (bt := 8) Try.runUnderlying52 Try.sizeOf3 Try.zeroValue3 Try.typeInfo3 rfl rfl rfl (fun s11 w hs11 H => ?_)
      refine O.ex (Ex.build rfl (bld92_0 _ (by first | rfl | assumption))) rfl ?_
      refine O.boxP rfl (fun b13 w H => ?_)
      refine O.ex (Ex.assign rfl) rfl ?_
      refine O.ex (Ex.assign rfl) rfl ?_
      refine O.nil ?_
      refine hK5 _ _ _ ?_
      refine W.ret ?_
      try dsimp only [thenQ, blockQ, retQ]
      first | refine ⟨_, ⟨_, _, rfl, rfl, _, _, rfl, rfl, rfl⟩, ?_⟩ | (refine retD_mark ?_; intro w H; refine ⟨_, ⟨_, _, rfl, rfl, _, _, rfl, rfl, rfl⟩, ?_⟩) | (refine retD_mark2 ?_; intro w H; refine ⟨_, ⟨_, _, rfl, rfl, _, _, rfl, rfl, rfl⟩, ?_⟩)
      first
      | exact .inl ⟨by omega, rfl, by assumption⟩
      | exact .inr ⟨by omega, _, rfl, rgI_open.2 ⟨_, _, 0, Rep.new (0 : Int) (by omega) (by omega), rgOI_open.2 (Holds.to (by assumption))⟩⟩
theorem pushI_ct {w : World} {s k : Nat} {xs : List Int} {v : Int} {L : List HProp} (H : Holds w (RgI s k xs :: L)) :
    CT Try.prog 31 [.pointer (some ⟨s, 0, none⟩), .int .i64 v] w fun u w' => u = .tuple #[.int .i64 (if xs.length = k then xs.headD (0 : Int) else (0 : Int)), .bool (decide (xs.length = k))] ∧ Holds w' (RgI s k ((if xs.length = k then xs.tail else xs) ++ [v]) :: L) := by
  obtain ⟨vv, at_, f, hr, H⟩ := rgI_open.1 H
  have H := rgOI_open.1 H
  have k0 := hr.k0
  have k1 := hr.k1
  have la := hr.la
  have f0 := hr.f0
  have f1 := hr.f1
  have lx := hr.lx
  refine CT.enter (N := 58) Try.func31 rfl rfl rfl rfl ?_
  refine W.seq (fun K0 hK0 => ?_)
  refine W.region ?_
  refine O.ex (Ex.assign rfl) rfl ?_
  refine O.ex (Ex.assign rfl) rfl ?_
  refine O.nil ?_
  refine hK0 _ _ _ ?_
  refine W.seq (fun K1 hK1 => ?_)
  refine W.region ?_
  refine O.ex (Ex.assign rfl) rfl ?_
  refine O.nil ?_
  refine hK1 _ _ _ ?_
  refine W.seq (fun K2 hK2 => ?_)
  refine W.drawTo _ (.take 0 (.take 1 (.take 2 (.take 3 (.take 4 (.take 5 (.take 6 (.take 7 (.take 8 (.take 9 (.take 10 .nil))))))))))) (mixed) (fun _ _ _ _ h => h) (by assumption) (PP.refl _) (by decide +kernel) (fun w H => ?_)
  refine OQ.ex rfl (fun w H => (Ex.move rfl)) rfl ?_
  refine OQ.ex rfl (fun w H => (by first | exact Ex.nilPtr rfl | exact Ex.nilFunc rfl | exact Ex.nilYield rfl)) rfl ?_
  refine OQ.ex rfl (fun w H => (by first | exact Ex.field0 fld92_2 rfl | exact Ex.field fld92_2 rfl | exact Ex.fieldS fld92_2 rfl)) rfl ?_
  refine OQ.ex rfl (fun w H => (by first | exact Ex.loadP Try.isAgg3 rfl | exact Ex.loadR Try.isAgg3 rfl | exact Ex.loadIn1 Try.isAgg3 rfl (Holds.to (by assumption)))) rfl ?_
  refine OQ.ex rfl (fun w H => (Ex.move rfl)) rfl ?_
  refine OQ.ex rfl (fun w H => (by first | exact Ex.nilPtr rfl | exact Ex.nilFunc rfl | exact Ex.nilYield rfl)) rfl ?_
  refine OQ.ex rfl (fun w H => (by first | exact Ex.field0 fld92_0 rfl | exact Ex.field fld92_0 rfl | exact Ex.fieldS fld92_0 rfl)) rfl ?_
  refine OQ.ex rfl (fun w H => (by first | exact Ex.loadP Try.isAgg52 rfl | exact Ex.loadR Try.isAgg52 rfl | exact Ex.loadIn1 Try.isAgg52 rfl (Holds.to (by assumption)))) rfl ?_
  refine OQ.ex rfl (fun w H => (by first | exact Ex.lenR Try.runUnderlying52 rfl | exact Ex.lenIn Try.runUnderlying52 rfl | exact Ex.lenL Try.runUnderlying52 rfl | exact Ex.len rfl Try.runUnderlying52 rfl)) rfl ?_
  refine OQ.ex rfl (fun w H => (Ex.eqlI rfl rfl)) rfl ?_
  refine OQ.ex rfl (fun w H => (Ex.assign rfl)) rfl ?_
  refine OQ.done ?_
  refine hK2 _ _ _ ?_
  refine W.seq (fun K3 hK3 => ?_)
  refine W.seq (fun K4 hK4 => ?_)
  refine W.region ?_
  refine O.ex (Ex.move rfl) rfl ?_
  refine O.nil ?_
  refine hK4 _ _ _ ?_
  first | refine W.cond_p rfl (fun hfull => ?_) (fun hnot => ?_) | refine W.cond_b rfl (fun hfull => ?_) (fun hnot => ?_)
  · refine W.seq (fun K5 hK5 => ?_)
    refine W.region ?_
    obtain ⟨x, xs, rfl⟩ : ∃ x ys, xs = x :: ys := by cases xs with | nil => simp only [List.length_nil] at hfull; omega | cons x ys => exact ⟨x, ys, rfl⟩
    refine O.ex (Ex.move rfl) rfl ?_
    refine O.ex (Ex.move rfl) rfl ?_
    refine O.ex (by first | exact Ex.nilPtr rfl | exact Ex.nilFunc rfl | exact Ex.nilYield rfl) rfl ?_
    refine O.ex (by first | exact Ex.field0 fld92_1 rfl | exact Ex.field fld92_1 rfl | exact Ex.fieldS fld92_1 rfl) rfl ?_
    refine O.ex (by first | exact Ex.loadP Try.isAgg3 rfl | exact Ex.loadR Try.isAgg3 rfl | exact Ex.loadIn1 Try.isAgg3 rfl (Holds.to (by assumption))) rfl ?_
    refine O.callF Try.call53 rfl rfl (CT.mono (outI_ct (Holds.to (by assumption)) (by omega) (by omega)) ?_)
    rintro _ w ⟨rfl, H⟩
    refine O.ex (Ex.assign rfl) rfl ?_
    refine O.nil ?_
    refine hK5 _ _ _ ?_
    refine W.seq (fun K6 hK6 => ?_)
    refine W.region ?_
    refine O.ex (Ex.move rfl) rfl ?_
    refine O.ex (Ex.move rfl) rfl ?_
    refine O.callF Try.call54 rfl rfl (CT.mono (placeI_ct (k := k) (Holds.to (by assumption)) (by simp only [List.length_set]; omega) (by simp only [List.length_set]; omega) (by omega) (by omega) (by omega) (by omega) (by simp only [List.length_set]; exact la)) ?_)
    rintro _ w ⟨rfl, H⟩
    refine O.ex (by first | exact Ex.nilPtr rfl | exact Ex.nilFunc rfl | exact Ex.nilYield rfl) rfl ?_
    refine O.ex (by first | exact Ex.field0 fld92_1 rfl | exact Ex.field fld92_1 rfl | exact Ex.fieldS fld92_1 rfl) rfl ?_
    first | refine O.storeP Try.sizeOf3 rfl rfl (fun w H => ?_) | refine O.storeR Try.sizeOf3 rfl rfl (fun w H => ?_)
    refine O.nil ?_
    refine hK6 _ _ _ ?_
    refine W.region ?_
    refine O.ex (Ex.move rfl) rfl ?_
    refine O.ex (by first | exact Ex.nilPtr rfl | exact Ex.nilFunc rfl | exact Ex.nilYield rfl) rfl ?_
    refine O.ex (by first | exact Ex.field0 fld92_2 rfl | exact Ex.field fld92_2 rfl | exact Ex.fieldS fld92_2 rfl) rfl ?_
    refine O.ex (by first | exact Ex.loadP Try.isAgg3 rfl | exact Ex.loadR Try.isAgg3 rfl | exact Ex.loadIn1 Try.isAgg3 rfl (Holds.to (by assumption))) rfl ?_
    refine O.ex (by first | exact Ex.subI rfl rfl | exact Ex.sub rfl rfl rfl) rfl ?_
    refine O.ex (by first | exact Ex.nilPtr rfl | exact Ex.nilFunc rfl | exact Ex.nilYield rfl) rfl ?_
    refine O.ex (by first | exact Ex.field0 fld92_2 rfl | exact Ex.field fld92_2 rfl | exact Ex.fieldS fld92_2 rfl) rfl ?_
    first | refine O.storeP Try.sizeOf3 rfl rfl (fun w H => ?_) | refine O.storeR Try.sizeOf3 rfl rfl (fun w H => ?_)
    obtain ⟨e1, hr⟩ := hr.tail (0 : Int)
    have hlt0 : xs.length < k := by simp only [List.length_cons] at lx; omega
    have en : (((x :: xs).length : Nat) : Int) - 1 = xs.length := by simp only [List.length_cons]; omega
    refine O.nil ?_
    refine hK3 _ _ _ ?_
    refine W.seq (fun K7 hK7 => ?_)
    first | have hlt := hlt0 | have hlt : xs.length < k := by omega
    have hix := hr.ixn hlt
    have la := hr.la
    have k0 := hr.k0
    have f0 := hr.f0
    have f1 := hr.f1
    try simp only [en] at H
    have s1 := arr_sl (T := 3) (e := Value.int .i64) (v := vv) (Holds.to (by assumption)) (by omega)
    refine W.drawTo (pt s _ :: []) (.take 0 (.take 1 (.take 2 (.take 3 (.take 4 (.take 5 (.take 6 (.take 7 (.take 8 (.take 10 (.one 9 (.take 11 (.one 12 .nil))))))))))))) (mixed) (fun _ _ _ _ h => h) (by assumption) PP.auto (by decide +kernel) (fun w H => ?_)
    refine OQ.ex rfl (fun w H => (Ex.move rfl)) rfl ?_
    refine OQ.ex rfl (fun w H => (by first | exact Ex.nilPtr rfl | exact Ex.nilFunc rfl | exact Ex.nilYield rfl)) rfl ?_
    refine OQ.ex rfl (fun w H => (by first | exact Ex.field0 fld92_0 rfl | exact Ex.field fld92_0 rfl | exact Ex.fieldS fld92_0 rfl)) rfl ?_
    refine OQ.ex rfl (fun w H => (by first | exact Ex.loadP Try.isAgg52 rfl | exact Ex.loadR Try.isAgg52 rfl | exact Ex.loadIn1 Try.isAgg52 rfl (Holds.to (by assumption)))) rfl ?_
    refine OQ.ex rfl (fun w H => (Ex.move rfl)) rfl ?_
    refine OQ.ex rfl (fun w H => (Ex.move rfl)) rfl ?_
    refine OQ.ex rfl (fun w H => (by first | exact Ex.nilPtr rfl | exact Ex.nilFunc rfl | exact Ex.nilYield rfl)) rfl ?_
    refine OQ.ex rfl (fun w H => (by first | exact Ex.field0 fld92_2 rfl | exact Ex.field fld92_2 rfl | exact Ex.fieldS fld92_2 rfl)) rfl ?_
    refine OQ.ex rfl (fun w H => (by first | exact Ex.loadP Try.isAgg3 rfl | exact Ex.loadR Try.isAgg3 rfl | exact Ex.loadIn1 Try.isAgg3 rfl (Holds.to (by assumption)))) rfl ?_
    refine OQ.ex rfl (fun w H => (Ex.move rfl)) rfl ?_
    refine OQ.step rfl ?_
    refine O.callF Try.call54 rfl rfl (CT.mono (placeI_ct (k := k) (Holds.to (by assumption)) (by omega) (by omega) (by omega) (by omega) (by omega) (by omega) la) ?_)
    rintro _ w ⟨rfl, H⟩
    refine O.thenNil ⟨(by first | exact Holds.to (by assumption) | assumption), ?_⟩
    refine OQ.ex rfl (fun w H => (by first | exact Ex.idxR Try.runUnderlying52 Try.sizeOf3 rfl rfl | exact Ex.idxIn Try.runUnderlying52 Try.sizeOf3 rfl rfl | exact Ex.idxS Try.runUnderlying52 Try.sizeOf3 rfl rfl | exact Ex.idx Try.runUnderlying52 Try.sizeOf3 rfl rfl (by omega) (by omega))) rfl ?_
    refine OQ.last rfl (by decide +kernel) ?_
    first | refine O.storeP Try.sizeOf3 rfl rfl (fun w H => ?_) | refine O.storeR Try.sizeOf3 rfl rfl (fun w H => ?_)
    refine O.nil ?_
    refine hK7 _ _ _ ?_
    refine W.seq (fun K8 hK8 => ?_)
    refine W.region ?_
    refine O.ex (Ex.move rfl) rfl ?_
    refine O.ex (by first | exact Ex.nilPtr rfl | exact Ex.nilFunc rfl | exact Ex.nilYield rfl) rfl ?_
    refine O.ex (by first | exact Ex.field0 fld92_2 rfl | exact Ex.field fld92_2 rfl | exact Ex.fieldS fld92_2 rfl) rfl ?_
    refine O.ex (by first | exact Ex.loadP Try.isAgg3 rfl | exact Ex.loadR Try.isAgg3 rfl | exact Ex.loadIn1 Try.isAgg3 rfl (Holds.to (by assumption))) rfl ?_
    refine O.ex (by first | exact Ex.addI rfl rfl | exact Ex.add rfl rfl rfl) rfl ?_
    refine O.ex (by first | exact Ex.nilPtr rfl | exact Ex.nilFunc rfl | exact Ex.nilYield rfl) rfl ?_
    refine O.ex (by first | exact Ex.field0 fld92_2 rfl | exact Ex.field fld92_2 rfl | exact Ex.fieldS fld92_2 rfl) rfl ?_
    first | refine O.storeP Try.sizeOf3 rfl rfl (fun w H => ?_) | refine O.storeR Try.sizeOf3 rfl rfl (fun w H => ?_)
    refine O.nil ?_
    refine hK8 _ _ _ ?_
    refine W.seq (fun K9 hK9 => ?_)
    refine W.region ?_
    refine O.ex (Ex.move rfl) rfl ?_
    refine O.ex (Ex.move rfl) rfl ?_
    refine O.ex (Ex.assign rfl) rfl ?_
    refine O.ex (Ex.assign rfl) rfl ?_
    refine O.nil ?_
    refine hK9 _ _ _ ?_
    refine W.ret ?_
    try dsimp only [thenQ, blockQ, retQ]
    first | refine ⟨_, ⟨_, _, rfl, rfl, _, _, rfl, rfl, rfl⟩, ?_⟩ | (refine retD_mark ?_; intro w H; refine ⟨_, ⟨_, _, rfl, rfl, _, _, rfl, rfl, rfl⟩, ?_⟩) | (refine retD_mark2 ?_; intro w H; refine ⟨_, ⟨_, _, rfl, rfl, _, _, rfl, rfl, rfl⟩, ?_⟩)
    have en2 : (((xs ++ [v]).length : Nat) : Int) = xs.length + 1 := by simp
    have hr2 := hr.push v hlt
    first
    | (have hk : (x :: xs).length = k := by omega
       refine ⟨by rw [e1, decide_eq_true hfull, if_pos hk, decide_eq_true hk] <;> rfl, ?_⟩
       rw [if_pos hk]
       show Holds w (RgI s k (xs ++ [v]) :: L)
       exact rgI_open.2 ⟨vv, _, _, hr2, rgOI_open.2 (by rw [en2]; exact Holds.to (by assumption))⟩)
    | (have hk : ¬ xs.length = k := by omega
       refine ⟨by rw [decide_eq_false hnot, if_neg hk, decide_eq_false hk] <;> rfl, ?_⟩
       rw [if_neg hk]
       exact rgI_open.2 ⟨vv, _, _, hr2, rgOI_open.2 (by rw [en2]; exact Holds.to (by assumption))⟩)
  · refine W.skip ?_
    refine hK3 _ _ _ ?_
    refine W.seq (fun K10 hK10 => ?_)
    first | have hlt := hlt0 | have hlt : xs.length < k := by omega
    have hix := hr.ixn hlt
    have la := hr.la
    have k0 := hr.k0
    have f0 := hr.f0
    have f1 := hr.f1
    try simp only [en] at H
    have s1 := arr_sl (T := 3) (e := Value.int .i64) (v := vv) (Holds.to (by assumption)) (by omega)
    refine W.drawTo (pt s _ :: []) (.take 0 (.take 1 (.take 2 (.take 3 (.take 4 (.take 5 (.take 6 (.take 7 (.take 8 (.take 10 (.one 9 (.take 11 (.one 12 .nil))))))))))))) (mixed) (fun _ _ _ _ h => h) (by assumption) PP.auto (by decide +kernel) (fun w H => ?_)
    refine OQ.ex rfl (fun w H => (Ex.move rfl)) rfl ?_
    refine OQ.ex rfl (fun w H => (by first | exact Ex.nilPtr rfl | exact Ex.nilFunc rfl | exact Ex.nilYield rfl)) rfl ?_
    refine OQ.ex rfl (fun w H => (by first | exact Ex.field0 fld92_0 rfl | exact Ex.field fld92_0 rfl | exact Ex.fieldS fld92_0 rfl)) rfl ?_
    refine OQ.ex rfl (fun w H => (by first | exact Ex.loadP Try.isAgg52 rfl | exact Ex.loadR Try.isAgg52 rfl | exact Ex.loadIn1 Try.isAgg52 rfl (Holds.to (by assumption)))) rfl ?_
    refine OQ.ex rfl (fun w H => (Ex.move rfl)) rfl ?_
    refine OQ.ex rfl (fun w H => (Ex.move rfl)) rfl ?_
    refine OQ.ex rfl (fun w H => (by first | exact Ex.nilPtr rfl | exact Ex.nilFunc rfl | exact Ex.nilYield rfl)) rfl ?_
    refine OQ.ex rfl (fun w H => (by first | exact Ex.field0 fld92_2 rfl | exact Ex.field fld92_2 rfl | exact Ex.fieldS fld92_2 rfl)) rfl ?_
    refine OQ.ex rfl (fun w H => (by first | exact Ex.loadP Try.isAgg3 rfl | exact Ex.loadR Try.isAgg3 rfl | exact Ex.loadIn1 Try.isAgg3 rfl (Holds.to (by assumption)))) rfl ?_
    refine OQ.ex rfl (fun w H => (Ex.move rfl)) rfl ?_
    refine OQ.step rfl ?_
    refine O.callF Try.call54 rfl rfl (CT.mono (placeI_ct (k := k) (Holds.to (by assumption)) (by omega) (by omega) (by omega) (by omega) (by omega) (by omega) la) ?_)
    rintro _ w ⟨rfl, H⟩
    refine O.thenNil ⟨(by first | exact Holds.to (by assumption) | assumption), ?_⟩
    refine OQ.ex rfl (fun w H => (by first | exact Ex.idxR Try.runUnderlying52 Try.sizeOf3 rfl rfl | exact Ex.idxIn Try.runUnderlying52 Try.sizeOf3 rfl rfl | exact Ex.idxS Try.runUnderlying52 Try.sizeOf3 rfl rfl | exact Ex.idx Try.runUnderlying52 Try.sizeOf3 rfl rfl (by omega) (by omega))) rfl ?_
    refine OQ.last rfl (by decide +kernel) ?_
    first | refine O.storeP Try.sizeOf3 rfl rfl (fun w H => ?_) | refine O.storeR Try.sizeOf3 rfl rfl (fun w H => ?_)
    refine O.nil ?_
    refine hK10 _ _ _ ?_
    refine W.seq (fun K11 hK11 => ?_)
    refine W.region ?_
    refine O.ex (Ex.move rfl) rfl ?_
    refine O.ex (by first | exact Ex.nilPtr rfl | exact Ex.nilFunc rfl | exact Ex.nilYield rfl) rfl ?_
    refine O.ex (by first | exact Ex.field0 fld92_2 rfl | exact Ex.field fld92_2 rfl | exact Ex.fieldS fld92_2 rfl) rfl ?_
    refine O.ex (by first | exact Ex.loadP Try.isAgg3 rfl | exact Ex.loadR Try.isAgg3 rfl | exact Ex.loadIn1 Try.isAgg3 rfl (Holds.to (by assumption))) rfl ?_
    refine O.ex (by first | exact Ex.addI rfl rfl | exact Ex.add rfl rfl rfl) rfl ?_
    refine O.ex (by first | exact Ex.nilPtr rfl | exact Ex.nilFunc rfl | exact Ex.nilYield rfl) rfl ?_
    refine O.ex (by first | exact Ex.field0 fld92_2 rfl | exact Ex.field fld92_2 rfl | exact Ex.fieldS fld92_2 rfl) rfl ?_
    first | refine O.storeP Try.sizeOf3 rfl rfl (fun w H => ?_) | refine O.storeR Try.sizeOf3 rfl rfl (fun w H => ?_)
    refine O.nil ?_
    refine hK11 _ _ _ ?_
    refine W.seq (fun K12 hK12 => ?_)
    refine W.region ?_
    refine O.ex (Ex.move rfl) rfl ?_
    refine O.ex (Ex.move rfl) rfl ?_
    refine O.ex (Ex.assign rfl) rfl ?_
    refine O.ex (Ex.assign rfl) rfl ?_
    refine O.nil ?_
    refine hK12 _ _ _ ?_
    refine W.ret ?_
    try dsimp only [thenQ, blockQ, retQ]
    first | refine ⟨_, ⟨_, _, rfl, rfl, _, _, rfl, rfl, rfl⟩, ?_⟩ | (refine retD_mark ?_; intro w H; refine ⟨_, ⟨_, _, rfl, rfl, _, _, rfl, rfl, rfl⟩, ?_⟩) | (refine retD_mark2 ?_; intro w H; refine ⟨_, ⟨_, _, rfl, rfl, _, _, rfl, rfl, rfl⟩, ?_⟩)
    have en2 : (((xs ++ [v]).length : Nat) : Int) = xs.length + 1 := by simp
    have hr2 := hr.push v hlt
    first
    | (have hk : (x :: xs).length = k := by omega
       refine ⟨by rw [e1, decide_eq_true hfull, if_pos hk, decide_eq_true hk] <;> rfl, ?_⟩
       rw [if_pos hk]
       show Holds w (RgI s k (xs ++ [v]) :: L)
       exact rgI_open.2 ⟨vv, _, _, hr2, rgOI_open.2 (by rw [en2]; exact Holds.to (by assumption))⟩)
    | (have hk : ¬ xs.length = k := by omega
       refine ⟨by rw [decide_eq_false hnot, if_neg hk, decide_eq_false hk] <;> rfl, ?_⟩
       rw [if_neg hk]
       exact rgI_open.2 ⟨vv, _, _, hr2, rgOI_open.2 (by rw [en2]; exact Holds.to (by assumption))⟩)
theorem allIG_ct {w : World} {s : Nat} {L : List HProp} (H : Holds w L) :
    CT Try.prog 55 [.pointer (some ⟨s, 0, none⟩)] w fun u w' => ∃ c, u = .func (.func 60) #[] #[.pointer (some ⟨c, 0, none⟩)] ∧ Holds w' (pt c (.cells #[.pointer (some ⟨s, 0, none⟩)] 58 (0, 0)) :: L) := by
  refine CT.enter (N := 4) Try.func55 rfl rfl rfl rfl ?_
  refine W.seq (fun K0 hK0 => ?_)
  refine W.region ?_
  refine O.boxP rfl (fun b1 w H => ?_)
  refine O.ex (Ex.assign rfl) rfl ?_
  refine O.nil ?_
  refine hK0 _ _ _ ?_
  refine W.seq (fun K1 hK1 => ?_)
  refine W.region ?_
  refine O.ex (Ex.makeFunc rfl rfl) rfl ?_
  refine O.ex (Ex.assign rfl) rfl ?_
  refine O.nil ?_
  refine hK1 _ _ _ ?_
  refine W.ret ?_
  try dsimp only [thenQ, blockQ, retQ]
  first | refine ⟨_, ⟨_, _, rfl, rfl, rfl⟩, ?_⟩ | (refine retD_mark ?_; intro w H; refine ⟨_, ⟨_, _, rfl, rfl, rfl⟩, ?_⟩) | (refine retD_mark2 ?_; intro w H; refine ⟨_, ⟨_, _, rfl, rfl, rfl⟩, ?_⟩)
  exact ⟨_, rfl, Holds.to (by assumption)⟩
def capIG (c s : Nat) : HProp := pt c (.cells #[.pointer (some ⟨s, 0, none⟩)] 58 (0, 0))
theorem all1IG_ct {w : World} {c s k : Nat} {vv : Value} {at_ xs : List Int} {f : Int} {fv : Value} {J : Nat → List HProp} {φ : Nat → Prop} {S : World → Prop} (hr : Rep at_ f xs k)
    (H : Holds w (capIG c s :: RgOI s vv at_ f xs.length :: J 0)) (hφ : φ 0) (hS : ∀ w, S w → Holds w [capIG c s, RgOI s vv at_ f xs.length])
    (hy : ∀ (j : Nat) w, j < xs.length → φ j → Holds w (capIG c s :: RgOI s vv at_ f xs.length :: J j) →
      VT Try.prog fv [.int .i64 (xs.getD (xs.length - 1 - j) default)] w fun u w' => (u = .bool true ∧ φ (j + 1) ∧ Holds w' (capIG c s :: RgOI s vv at_ f xs.length :: J (j + 1))) ∨ (u = .bool false ∧ S w')) :
    CT Try.prog 60 [fv, .pointer (some ⟨c, 0, none⟩)] w fun _ w' => (φ xs.length ∧ Holds w' (capIG c s :: RgOI s vv at_ f xs.length :: J xs.length)) ∨ S w' := by
  have H := Holds.f2 (rgOI_open.1 H.swap)
  unfold capIG at H
  have k0 := hr.k0
  have k1 := hr.k1
  have la := hr.la
  have f0 := hr.f0
  have f1 := hr.f1
  have lx := hr.lx
  refine CT.enter (N := 25) Try.func60 rfl rfl rfl rfl ?_
  refine W.seq (fun K0 hK0 => ?_)
  refine W.region ?_
  refine O.ex (by first | exact Ex.loadP Try.isAgg58 rfl | exact Ex.loadR Try.isAgg58 rfl | exact Ex.loadIn1 Try.isAgg58 rfl (Holds.to (by assumption))) rfl ?_
  refine O.ex (by first | exact Ex.nilPtr rfl | exact Ex.nilFunc rfl | exact Ex.nilYield rfl) rfl ?_
  refine O.ex (by first | exact Ex.field0 fld92_2 rfl | exact Ex.field fld92_2 rfl | exact Ex.fieldS fld92_2 rfl) rfl ?_
  refine O.ex (by first | exact Ex.loadP Try.isAgg3 rfl | exact Ex.loadR Try.isAgg3 rfl | exact Ex.loadIn1 Try.isAgg3 rfl (Holds.to (by assumption))) rfl ?_
  refine O.ex (by first | exact Ex.subI rfl rfl | exact Ex.sub rfl rfl rfl) rfl ?_
  refine O.ex (Ex.assign rfl) rfl ?_
  refine O.nil ?_
  refine hK0 _ _ _ ?_
  refine W.block ?_
  refine W.loop (σ := Nat) (fun j => [(0, fv), (1, .pointer (some ⟨c, 0, none⟩)), (3, .int .i64 ((xs.length : Int) - 1 - j))]) (fun j ds w => ds = [] ∧ j ≤ xs.length ∧ φ j ∧ Holds w (capIG c s :: RgOI s vv at_ f xs.length :: J j)) (fun j => xs.length - j) 0 ⟨rfl, rfl, by rw [show (xs.length : Int) - 1 - ((0 : Nat) : Int) = xs.length - 1 from by omega]; rfl, trivial⟩ ⟨rfl, by omega, hφ, Holds.to (rgOI_open.2 (Holds.to (by assumption)))⟩ ?_
  clear H
  rintro j _ w ⟨rfl, hj, hφj, H⟩
  have H := Holds.f2 (rgOI_open.1 H.swap)
  unfold capIG at H
  refine W.seq (fun K1 hK1 => ?_)
  refine W.seq (fun K2 hK2 => ?_)
  refine W.region ?_
  refine O.ex (Ex.move rfl) rfl ?_
  refine O.ex (Ex.geq rfl rfl) rfl ?_
  refine O.nil ?_
  refine hK2 _ _ _ ?_
  first | refine W.cond_p rfl (fun hin => ?_) (fun hout => ?_) | refine W.cond_b rfl (fun hin => ?_) (fun hout => ?_)
  · refine W.skip ?_
    refine hK1 _ _ _ ?_
    refine W.seq (fun K3 hK3 => ?_)
    refine W.block ?_
    refine W.seq (fun K4 hK4 => ?_)
    have hg : at_.getD ((f + ((xs.length : Int) - 1 - j)) % k).toNat default = xs.getD (xs.length - 1 - j) default := by
      rw [show ((xs.length : Int) - 1 - j) = ((xs.length - 1 - j : Nat) : Int) from by omega]; exact hr.get _ (by omega)
    have hix := hr.ix ((xs.length : Int) - 1 - j) (by omega) (by omega)
    have s1 := arr_sl (T := 3) (e := Value.int .i64) (v := vv) (Holds.to (by assumption)) (by omega)
    refine W.drawTo (pt c _ :: pt s _ :: arr 3 (Value.int .i64) vv _ :: []) (.take 0 (.take 1 (.take 2 (.take 3 (.take 4 (.take 5 (.take 6 (.one 7 (.take 8 (.one 9 (.one 10 (.take 11 .nil)))))))))))) (mixed) (fun _ _ _ _ h => h) (by assumption) PP.auto (by decide +kernel) (fun w H => ?_)
    refine OQ.ex rfl (fun w H => (Ex.move rfl)) rfl ?_
    refine OQ.ex rfl (fun w H => (by first | exact Ex.loadP Try.isAgg58 rfl | exact Ex.loadR Try.isAgg58 rfl | exact Ex.loadIn1 Try.isAgg58 rfl (Holds.to (by assumption)))) rfl ?_
    refine OQ.ex rfl (fun w H => (by first | exact Ex.nilPtr rfl | exact Ex.nilFunc rfl | exact Ex.nilYield rfl)) rfl ?_
    refine OQ.ex rfl (fun w H => (by first | exact Ex.field0 fld92_0 rfl | exact Ex.field fld92_0 rfl | exact Ex.fieldS fld92_0 rfl)) rfl ?_
    refine OQ.ex rfl (fun w H => (by first | exact Ex.loadP Try.isAgg52 rfl | exact Ex.loadR Try.isAgg52 rfl | exact Ex.loadIn1 Try.isAgg52 rfl (Holds.to (by assumption)))) rfl ?_
    refine OQ.ex rfl (fun w H => (by first | exact Ex.loadP Try.isAgg58 rfl | exact Ex.loadR Try.isAgg58 rfl | exact Ex.loadIn1 Try.isAgg58 rfl (Holds.to (by assumption)))) rfl ?_
    refine OQ.ex rfl (fun w H => (Ex.move rfl)) rfl ?_
    refine OQ.step rfl ?_
    refine O.callF Try.call54 rfl rfl (CT.mono (placeI_ct (k := k) (Holds.to (by assumption)) (by omega) (by omega) (by omega) (by omega) (by omega) (by omega) la) ?_)
    rintro _ w ⟨rfl, H⟩
    refine O.thenNil ⟨(by first | exact Holds.to (by assumption) | assumption), ?_⟩
    refine OQ.ex rfl (fun w H => (by first | exact Ex.idxR Try.runUnderlying52 Try.sizeOf3 rfl rfl | exact Ex.idxIn Try.runUnderlying52 Try.sizeOf3 rfl rfl | exact Ex.idxS Try.runUnderlying52 Try.sizeOf3 rfl rfl | exact Ex.idx Try.runUnderlying52 Try.sizeOf3 rfl rfl (by omega) (by omega))) rfl ?_
    refine OQ.step rfl ?_
    refine O.ex (by first | exact Ex.loadP Try.isAgg3 rfl | exact Ex.loadR Try.isAgg3 rfl | exact Ex.loadIn1 Try.isAgg3 rfl (Holds.to (by assumption))) rfl ?_
    refine O.thenNil ⟨(by first | exact Holds.to (by assumption) | assumption), ?_⟩
    refine OQ.step rfl ?_
    rw [hg]
    refine O.callVT rfl rfl rfl (VT.mono (VT.two (hy j w (by omega) hφj (Holds.to (rgOI_open.2 (Holds.to (by assumption))))) (C := fun w' => Holds w' [capIG c s, RgOI s vv at_ f xs.length]) (fun _ h => Holds.to h.2) hS) ?_)
    rintro _ w ⟨b, rfl, H, hb⟩
    have H := Holds.f2 (rgOI_open.1 H.swap)
    unfold capIG at H
    refine O.thenNil ⟨(by first | exact Holds.to (by assumption) | assumption), ?_⟩
    refine OQ.ex rfl (fun w H => (by first | exact Ex.notD rfl | exact Ex.not rfl)) rfl ?_
    refine OQ.done ?_
    refine hK4 _ _ _ ?_
    first | refine W.cond_p rfl (fun hstop => ?_) (fun hgo => ?_) | refine W.cond_b rfl (fun hstop => ?_) (fun hgo => ?_)
    · refine W.ret ?_
      try dsimp only [thenQ, blockQ, retQ]
      first | refine ⟨_, rfl, ?_⟩ | (refine retD_mark ?_; intro w H; refine ⟨_, rfl, ?_⟩) | (refine retD_mark2 ?_; intro w H; refine ⟨_, rfl, ?_⟩)
      first
      | (rcases hb with ⟨rfl, _⟩ | ⟨_, hs⟩
         · simp at hstop
         · exact .inr hs)
      | (obtain rfl : j = xs.length := by omega
         exact .inl ⟨hφj, Holds.to (rgOI_open.2 (Holds.to (by assumption)))⟩)
    · refine W.skip ?_
      refine hK3 _ _ _ ?_
      refine W.region ?_
      refine O.ex (Ex.move rfl) rfl ?_
      refine O.ex (by first | exact Ex.subI rfl rfl | exact Ex.sub rfl rfl rfl) rfl ?_
      refine O.ex (Ex.assign rfl) rfl ?_
      refine O.nil ?_
      rcases hb with ⟨hb, hφ2, H⟩ | ⟨rfl, _⟩
      · exact ⟨j + 1, ⟨rfl, rfl, by rw [show (xs.length : Int) - 1 - ((j + 1 : Nat) : Int) = xs.length - 1 - j - 1 from by omega]; rfl, trivial⟩, ⟨rfl, by omega, hφ2, H⟩, by omega⟩
      · simp at hgo
  · refine W.exit ?_
    try dsimp only [thenQ, blockQ, retQ]
    first | refine ⟨_, rfl, ?_⟩ | (refine retD_mark ?_; intro w H; refine ⟨_, rfl, ?_⟩) | (refine retD_mark2 ?_; intro w H; refine ⟨_, rfl, ?_⟩)
    first
    | (rcases hb with ⟨rfl, _⟩ | ⟨_, hs⟩
       · simp at hstop
       · exact .inr hs)
    | (obtain rfl : j = xs.length := by omega
       exact .inl ⟨hφj, Holds.to (rgOI_open.2 (Holds.to (by assumption)))⟩)
theorem topI_ct {w : World} {s k : Nat} {xs : List Int} {L : List HProp} (H : Holds w (RgI s k xs :: L)) :
    CT Try.prog 33 [.pointer (some ⟨s, 0, none⟩)] w fun u w' => u = .tuple #[.int .i64 (xs.getLastD (0 : Int)), .bool (decide (xs.length ≠ 0))] ∧ Holds w' (RgI s k xs :: L) := by
  refine CT.enter (N := 11) Try.func33 rfl rfl rfl rfl ?_
  refine W.seq (fun K0 hK0 => ?_)
  refine W.region ?_
  refine O.allocP Try.zeroValue3 (fun b2 w H => ?_)
  refine O.allocP Try.zeroValue4 (fun b3 w H => ?_)
  refine O.nil ?_
  refine hK0 _ _ _ ?_
  refine W.seq (fun K1 hK1 => ?_)
  refine W.seq (fun K2 hK2 => ?_)
  refine W.region ?_
  refine O.ex (Ex.move rfl) rfl ?_
  refine O.callF Try.call55 rfl rfl (CT.mono (allIG_ct (by assumption)) ?_)
  rintro _ w ⟨c, rfl, H⟩
  refine O.nil ?_
  refine hK2 _ _ _ ?_
  refine W.block ?_
  obtain ⟨vv, at_, f, hr, H⟩ := rgI_open.1 (Holds.to (by assumption))
  refine W.rangeFunc rfl Try.call60 H ?_
  rintro LR kk D w hLR H
  refine CT.mono (all1IG_ct (c := c) (s := s) (vv := vv) hr (J := fun _ => LR .ready none :: dblk D :: pt b2 (.cells #[.int .i64 (0 : Int)] 3 (0, 0)) :: pt b3 (.cells #[.bool false] 4 (0, 0)) :: L) (φ := fun j => j = 0)
    (S := fun w' => 0 < xs.length ∧ Holds w' (capIG c s :: RgOI s vv at_ f xs.length :: LR .done (some .ret) :: dblk D :: pt b2 (.cells #[.int .i64 (xs.getLastD (0 : Int))] 3 (0, 0)) :: pt b3 (.cells #[.bool true] 4 (0, 0)) :: L)) (Holds.to (by assumption)) rfl (fun w h => Holds.to h.2) ?_) ?_
  · intro j w hj hφ H
    obtain rfl : j = 0 := hφ
    have hl : xs.getD (xs.length - 1 - 0) default = xs.getLastD (0 : Int) := by
      obtain ⟨ys, x, rfl⟩ : ∃ ys x, xs = ys ++ [x] := ⟨xs.dropLast, xs.getLast (by rintro rfl; simp at hj), (List.dropLast_concat_getLast _).symm⟩
      simp [List.getD_eq_getElem?_getD]
    rw [hl]
    refine VT.round hLR (Holds.to (by assumption)) rfl rfl ?_
    refine W.region ?_
    refine O.ex (Ex.assign rfl) rfl ?_
    refine O.nil ?_
    refine ⟨_, Holds.to (by assumption), fun w H => ?_⟩
    refine W.block ?_
    refine W.seq (fun K3 hK3 => ?_)
    refine W.region ?_
    refine O.ex (Ex.move rfl) rfl ?_
    first | refine O.storeP Try.sizeOf3 rfl rfl (fun w H => ?_) | refine O.storeR Try.sizeOf3 rfl rfl (fun w H => ?_)
    first | refine O.storeP Try.sizeOf4 rfl rfl (fun w H => ?_) | refine O.storeR Try.sizeOf4 rfl rfl (fun w H => ?_)
    refine O.nil ?_
    refine hK3 _ _ _ ?_
    refine W.ret ?_
    exact ⟨_, Holds.to (by assumption), fun w H => .inr ⟨rfl, by omega, Holds.to (by assumption)⟩⟩
  rintro _ w (⟨hφ, H⟩ | ⟨hpos, H⟩)
  all_goals refine rangeEnd (Holds.to (by assumption)) (by nofun) (fun w H => ?_)
  · skip
    refine hK1 _ _ _ ?_
    refine W.seq (fun K4 hK4 => ?_)
    refine W.region ?_
    refine O.ex (Ex.assign rfl) rfl ?_
    refine O.nil ?_
    refine hK4 _ _ _ ?_
    refine W.seq (fun K5 hK5 => ?_)
    refine W.region ?_
    refine O.ex (Ex.move rfl) rfl ?_
    first | refine O.storeP Try.sizeOf3 rfl rfl (fun w H => ?_) | refine O.storeR Try.sizeOf3 rfl rfl (fun w H => ?_)
    first | refine O.storeP Try.sizeOf4 rfl rfl (fun w H => ?_) | refine O.storeR Try.sizeOf4 rfl rfl (fun w H => ?_)
    refine O.nil ?_
    refine hK5 _ _ _ ?_
    refine W.ret ?_
    try dsimp only [thenQ, blockQ, retQ]
    first | refine ⟨_, ⟨_, _, _, rfl, rfl, loadVar_one Try.isAgg3, _, _, _, rfl, rfl, loadVar_one Try.isAgg4, rfl⟩, ?_⟩ | (refine retD_mark ?_; intro w H; refine ⟨_, ⟨_, _, _, rfl, rfl, loadVar_one Try.isAgg3, _, _, _, rfl, rfl, loadVar_one Try.isAgg4, rfl⟩, ?_⟩) | (refine retD_mark2 ?_; intro w H; refine ⟨_, ⟨_, _, _, rfl, rfl, loadVar_one Try.isAgg3, _, _, _, rfl, rfl, loadVar_one Try.isAgg4, rfl⟩, ?_⟩)
    first
    | (obtain rfl : xs = [] := List.length_eq_zero_iff.1 hφ
       exact ⟨rfl, rgI_open.2 ⟨vv, _, _, hr, Holds.to (by assumption)⟩⟩)
    | (refine ⟨by rw [decide_eq_true (show xs.length ≠ 0 by omega)]; rfl, rgI_open.2 ⟨vv, _, _, hr, Holds.to (by assumption)⟩⟩)
  · skip
    refine W.ret ?_
    try dsimp only [thenQ, blockQ, retQ]
    first | refine ⟨_, ⟨_, _, _, rfl, rfl, loadVar_one Try.isAgg3, _, _, _, rfl, rfl, loadVar_one Try.isAgg4, rfl⟩, ?_⟩ | (refine retD_mark ?_; intro w H; refine ⟨_, ⟨_, _, _, rfl, rfl, loadVar_one Try.isAgg3, _, _, _, rfl, rfl, loadVar_one Try.isAgg4, rfl⟩, ?_⟩) | (refine retD_mark2 ?_; intro w H; refine ⟨_, ⟨_, _, _, rfl, rfl, loadVar_one Try.isAgg3, _, _, _, rfl, rfl, loadVar_one Try.isAgg4, rfl⟩, ?_⟩)
    first
    | (obtain rfl : xs = [] := List.length_eq_zero_iff.1 hφ
       exact ⟨rfl, rgI_open.2 ⟨vv, _, _, hr, Holds.to (by assumption)⟩⟩)
    | (refine ⟨by rw [decide_eq_true (show xs.length ≠ 0 by omega)]; rfl, rgI_open.2 ⟨vv, _, _, hr, Holds.to (by assumption)⟩⟩)
theorem placeS_ct {w : World} {s : Nat} {vv : Value} {at_ : List ByteArray} {f n i : Int} {L : List HProp} (H : Holds w (pt s (.cells #[vv, .int .i64 f, .int .i64 n] 98 (0, 0)) :: arr 9 (Value.string) vv at_ :: L)) (h0 : 0 < at_.length) (h1 : at_.length ≤ 1000) (f0 : 0 ≤ f) (f1 : f ≤ 1000) (i0 : 0 ≤ i) (i1 : i ≤ 1000) {k : Nat} (hk : at_.length = k) :
    CT Try.prog 57 [.pointer (some ⟨s, 0, none⟩), .int .i64 i] w fun u w' => u = .int .i64 ((f + i) % k) ∧ Holds w' (pt s (.cells #[vv, .int .i64 f, .int .i64 n] 98 (0, 0)) :: arr 9 (Value.string) vv at_ :: L) := by
  subst hk
  refine CT.enter (N := 17) Try.func57 rfl rfl rfl rfl ?_
  refine W.seq (fun K0 hK0 => ?_)
  refine W.region ?_
  refine O.ex (Ex.assign rfl) rfl ?_
  refine O.nil ?_
  refine hK0 _ _ _ ?_
  refine W.seq (fun K1 hK1 => ?_)
  refine W.drawTo _ (.take 0 (.take 1 (.take 2 (.take 3 (.take 4 (.take 5 (.take 6 (.take 7 (.take 8 (.take 9 (.take 10 (.take 11 (.take 12 .nil))))))))))))) (mixed) (fun _ _ _ _ h => h) (by assumption) (PP.refl _) (by decide +kernel) (fun w H => ?_)
  refine OQ.ex rfl (fun w H => (Ex.move rfl)) rfl ?_
  refine OQ.ex rfl (fun w H => (by first | exact Ex.nilPtr rfl | exact Ex.nilFunc rfl | exact Ex.nilYield rfl)) rfl ?_
  refine OQ.ex rfl (fun w H => (by first | exact Ex.field0 fld98_1 rfl | exact Ex.field fld98_1 rfl | exact Ex.fieldS fld98_1 rfl)) rfl ?_
  refine OQ.ex rfl (fun w H => (by first | exact Ex.loadP Try.isAgg3 rfl | exact Ex.loadR Try.isAgg3 rfl | exact Ex.loadIn1 Try.isAgg3 rfl (Holds.to (by assumption)))) rfl ?_
  refine OQ.ex rfl (fun w H => (Ex.move rfl)) rfl ?_
  refine OQ.ex rfl (fun w H => (by first | exact Ex.addI rfl rfl | exact Ex.add rfl rfl rfl)) rfl ?_
  refine OQ.ex rfl (fun w H => (Ex.move rfl)) rfl ?_
  refine OQ.ex rfl (fun w H => (by first | exact Ex.nilPtr rfl | exact Ex.nilFunc rfl | exact Ex.nilYield rfl)) rfl ?_
  refine OQ.ex rfl (fun w H => (by first | exact Ex.field0 fld98_0 rfl | exact Ex.field fld98_0 rfl | exact Ex.fieldS fld98_0 rfl)) rfl ?_
  refine OQ.ex rfl (fun w H => (by first | exact Ex.loadP Try.isAgg47 rfl | exact Ex.loadR Try.isAgg47 rfl | exact Ex.loadIn1 Try.isAgg47 rfl (Holds.to (by assumption)))) rfl ?_
  refine OQ.ex rfl (fun w H => (by first | exact Ex.lenR Try.runUnderlying47 rfl | exact Ex.lenIn Try.runUnderlying47 rfl | exact Ex.lenL Try.runUnderlying47 rfl | exact Ex.len rfl Try.runUnderlying47 rfl)) rfl ?_
  refine OQ.ex rfl (fun w H => (by first | exact Ex.remI rfl rfl | exact Ex.rem rfl rfl (by omega) rfl)) rfl ?_
  refine OQ.ex rfl (fun w H => (Ex.assign rfl)) rfl ?_
  refine OQ.done ?_
  refine hK1 _ _ _ ?_
  refine W.ret ?_
  try dsimp only [thenQ, blockQ, retQ]
  first | refine ⟨_, ⟨_, _, rfl, rfl, rfl⟩, ?_⟩ | (refine retD_mark ?_; intro w H; refine ⟨_, ⟨_, _, rfl, rfl, rfl⟩, ?_⟩) | (refine retD_mark2 ?_; intro w H; refine ⟨_, ⟨_, _, rfl, rfl, rfl⟩, ?_⟩)
  exact ⟨rfl, by first | assumption | exact Holds.to (by assumption)⟩
theorem out1S_ct {w : World} {vv : Value} {at_ : List ByteArray} {j : Nat} {L : List HProp} (H : Holds w (arr 9 (Value.string) vv at_ :: L)) (h : j < at_.length) :
    CT Try.prog 61 [.pointer (some (aAt vv j))] w fun u w' => u = .string (at_.getD j default) ∧ Holds w' (arr 9 (Value.string) vv (at_.set j ByteArray.empty) :: L) := by
  refine CT.enter (N := 12) Try.func61 rfl rfl rfl rfl ?_
  refine W.seq (fun K0 hK0 => ?_)
  refine W.region ?_
  refine O.ex (Ex.assign rfl) rfl ?_
  refine O.nil ?_
  refine hK0 _ _ _ ?_
  refine W.seq (fun K1 hK1 => ?_)
  refine W.region ?_
  refine O.ex (Ex.assign rfl) rfl ?_
  refine O.nil ?_
  refine hK1 _ _ _ ?_
  refine W.seq (fun K2 hK2 => ?_)
  refine W.region ?_
  refine O.ex (Ex.move rfl) rfl ?_
  refine O.ex (by first | exact Ex.nilPtr rfl | exact Ex.nilFunc rfl | exact Ex.nilYield rfl) rfl ?_
  refine O.ex (by first | exact Ex.loadP Try.isAgg9 rfl | exact Ex.loadR Try.isAgg9 rfl | exact Ex.loadIn1 Try.isAgg9 rfl (Holds.to (by assumption))) rfl ?_
  refine O.ex (Ex.assign rfl) rfl ?_
  refine O.nil ?_
  refine hK2 _ _ _ ?_
  refine W.seq (fun K3 hK3 => ?_)
  refine W.region ?_
  refine O.ex (Ex.move rfl) rfl ?_
  refine O.ex (Ex.move rfl) rfl ?_
  refine O.ex (by first | exact Ex.nilPtr rfl | exact Ex.nilFunc rfl | exact Ex.nilYield rfl) rfl ?_
  first | refine O.storeP Try.sizeOf9 rfl rfl (fun w H => ?_) | refine O.storeR Try.sizeOf9 rfl rfl (fun w H => ?_)
  refine O.nil ?_
  refine hK3 _ _ _ ?_
  refine W.seq (fun K4 hK4 => ?_)
  refine W.region ?_
  refine O.ex (Ex.move rfl) rfl ?_
  refine O.ex (Ex.assign rfl) rfl ?_
  refine O.nil ?_
  refine hK4 _ _ _ ?_
  refine W.ret ?_
  try dsimp only [thenQ, blockQ, retQ]
  first | refine ⟨_, ⟨_, _, rfl, rfl, rfl⟩, ?_⟩ | (refine retD_mark ?_; intro w H; refine ⟨_, ⟨_, _, rfl, rfl, rfl⟩, ?_⟩) | (refine retD_mark2 ?_; intro w H; refine ⟨_, ⟨_, _, rfl, rfl, rfl⟩, ?_⟩)
  exact ⟨rfl, by first | assumption | exact Holds.to (by assumption)⟩
theorem outS_ct {w : World} {s : Nat} {vv a b : Value} {at_ : List ByteArray} {i : Int} {L : List HProp} (H : Holds w (pt s (.cells #[vv, a, b] 98 (0, 0)) :: arr 9 (Value.string) vv at_ :: L)) (h0 : 0 ≤ i) (h1 : i < at_.length) :
    CT Try.prog 56 [.pointer (some ⟨s, 0, none⟩), .int .i64 i] w fun u w' => u = .string (at_.getD i.toNat default) ∧ Holds w' (pt s (.cells #[vv, a, b] 98 (0, 0)) :: arr 9 (Value.string) vv (at_.set i.toNat ByteArray.empty) :: L) := by
  refine CT.enter (N := 14) Try.func56 rfl rfl rfl rfl ?_
  refine W.seq (fun K0 hK0 => ?_)
  refine W.region ?_
  refine O.ex (Ex.assign rfl) rfl ?_
  refine O.nil ?_
  refine hK0 _ _ _ ?_
  refine W.seq (fun K1 hK1 => ?_)
  refine W.region ?_
  refine O.ex (Ex.assign rfl) rfl ?_
  refine O.nil ?_
  refine hK1 _ _ _ ?_
  refine W.seq (fun K2 hK2 => ?_)
  refine W.region ?_
  refine O.ex (Ex.move rfl) rfl ?_
  refine O.ex (Ex.move rfl) rfl ?_
  refine O.ex (by first | exact Ex.nilPtr rfl | exact Ex.nilFunc rfl | exact Ex.nilYield rfl) rfl ?_
  refine O.ex (by first | exact Ex.field0 fld98_0 rfl | exact Ex.field fld98_0 rfl | exact Ex.fieldS fld98_0 rfl) rfl ?_
  refine O.ex (by first | exact Ex.loadP Try.isAgg47 rfl | exact Ex.loadR Try.isAgg47 rfl | exact Ex.loadIn1 Try.isAgg47 rfl (Holds.to (by assumption))) rfl ?_
  refine O.ex (Ex.move rfl) rfl ?_
  refine O.ex (by first | exact Ex.idxR Try.runUnderlying47 Try.sizeOf9 rfl rfl | exact Ex.idxIn Try.runUnderlying47 Try.sizeOf9 rfl rfl | exact Ex.idxS Try.runUnderlying47 Try.sizeOf9 rfl rfl | exact Ex.idx Try.runUnderlying47 Try.sizeOf9 rfl rfl (by omega) (by omega)) rfl ?_
  refine O.callV Try.call61 rfl rfl rfl (CT.mono (out1S_ct (Holds.to (by assumption)) (by omega)) ?_)
  rintro _ w ⟨rfl, H⟩
  refine O.ex (Ex.assign rfl) rfl ?_
  refine O.nil ?_
  refine hK2 _ _ _ ?_
  refine W.ret ?_
  try dsimp only [thenQ, blockQ, retQ]
  first | refine ⟨_, ⟨_, _, rfl, rfl, rfl⟩, ?_⟩ | (refine retD_mark ?_; intro w H; refine ⟨_, ⟨_, _, rfl, rfl, rfl⟩, ?_⟩) | (refine retD_mark2 ?_; intro w H; refine ⟨_, ⟨_, _, rfl, rfl, rfl⟩, ?_⟩)
  exact ⟨rfl, by first | assumption | exact Holds.to (by assumption)⟩
def RgOS (s : Nat) (vv : Value) (at_ : List ByteArray) (f n : Int) : HProp := star [pt s (.cells #[vv, .int .i64 f, .int .i64 n] 98 (0, 0)), arr 9 (Value.string) vv at_]
theorem rgOS_open {w : World} {s : Nat} {vv : Value} {at_ : List ByteArray} {f n : Int} {L : List HProp} : Holds w (RgOS s vv at_ f n :: L) ↔ Holds w (pt s (.cells #[vv, .int .i64 f, .int .i64 n] 98 (0, 0)) :: arr 9 (Value.string) vv at_ :: L) := by
  unfold RgOS
  simp only [Holds.star, List.cons_append, List.nil_append]
def RgS (s k : Nat) (xs : List ByteArray) : HProp := hex fun vv => hex fun at_ => hex fun f => star [hp (Rep at_ f xs k), RgOS s vv at_ f xs.length]
theorem rgS_open {w : World} {s k : Nat} {xs : List ByteArray} {L : List HProp} : Holds w (RgS s k xs :: L) ↔ ∃ vv at_ f, Rep at_ f xs k ∧ Holds w (RgOS s vv at_ f xs.length :: L) := by
  unfold RgS
  simp only [Holds.hex, Holds.star, List.cons_append, List.nil_append, Holds.hp]
theorem lenSG_ct {w : World} {s k : Nat} {xs : List ByteArray} {L : List HProp} (H : Holds w (RgS s k xs :: L)) :
    CT Try.prog 40 [.pointer (some ⟨s, 0, none⟩)] w fun u w' => u = .int .i64 xs.length ∧ Holds w' (RgS s k xs :: L) := by
  obtain ⟨vv, at_, f, hr, H⟩ := rgS_open.1 H
  have H := rgOS_open.1 H
  refine CT.enter (N := 7) Try.func40 rfl rfl rfl rfl ?_
  refine W.seq (fun K0 hK0 => ?_)
  refine W.region ?_
  refine O.ex (Ex.assign rfl) rfl ?_
  refine O.nil ?_
  refine hK0 _ _ _ ?_
  refine W.seq (fun K1 hK1 => ?_)
  refine W.region ?_
  refine O.ex (Ex.move rfl) rfl ?_
  refine O.ex (by first | exact Ex.nilPtr rfl | exact Ex.nilFunc rfl | exact Ex.nilYield rfl) rfl ?_
  refine O.ex (by first | exact Ex.field0 fld98_2 rfl | exact Ex.field fld98_2 rfl | exact Ex.fieldS fld98_2 rfl) rfl ?_
  refine O.ex (by first | exact Ex.loadP Try.isAgg3 rfl | exact Ex.loadR Try.isAgg3 rfl | exact Ex.loadIn1 Try.isAgg3 rfl (Holds.to (by assumption))) rfl ?_
  refine O.ex (Ex.assign rfl) rfl ?_
  refine O.nil ?_
  refine hK1 _ _ _ ?_
  refine W.ret ?_
  try dsimp only [thenQ, blockQ, retQ]
  first | refine ⟨_, ⟨_, _, rfl, rfl, rfl⟩, ?_⟩ | (refine retD_mark ?_; intro w H; refine ⟨_, ⟨_, _, rfl, rfl, rfl⟩, ?_⟩) | (refine retD_mark2 ?_; intro w H; refine ⟨_, ⟨_, _, rfl, rfl, rfl⟩, ?_⟩)
  exact ⟨rfl, rgS_open.2 ⟨vv, at_, f, hr, rgOS_open.2 (Holds.to (by assumption))⟩⟩
theorem roomSG_ct {w : World} {s k : Nat} {xs : List ByteArray} {L : List HProp} (H : Holds w (RgS s k xs :: L)) :
    CT Try.prog 42 [.pointer (some ⟨s, 0, none⟩)] w fun u w' => u = .int .i64 k ∧ Holds w' (RgS s k xs :: L) := by
  obtain ⟨vv, at_, f, hr, H⟩ := rgS_open.1 H
  have H := rgOS_open.1 H
  refine CT.enter (N := 8) Try.func42 rfl rfl rfl rfl ?_
  refine W.seq (fun K0 hK0 => ?_)
  refine W.region ?_
  refine O.ex (Ex.assign rfl) rfl ?_
  refine O.nil ?_
  refine hK0 _ _ _ ?_
  refine W.seq (fun K1 hK1 => ?_)
  refine W.region ?_
  refine O.ex (Ex.move rfl) rfl ?_
  refine O.ex (by first | exact Ex.nilPtr rfl | exact Ex.nilFunc rfl | exact Ex.nilYield rfl) rfl ?_
  refine O.ex (by first | exact Ex.field0 fld98_0 rfl | exact Ex.field fld98_0 rfl | exact Ex.fieldS fld98_0 rfl) rfl ?_
  refine O.ex (by first | exact Ex.loadP Try.isAgg47 rfl | exact Ex.loadR Try.isAgg47 rfl | exact Ex.loadIn1 Try.isAgg47 rfl (Holds.to (by assumption))) rfl ?_
  refine O.ex (by first | exact Ex.lenR Try.runUnderlying47 rfl | exact Ex.lenIn Try.runUnderlying47 rfl | exact Ex.lenL Try.runUnderlying47 rfl | exact Ex.len rfl Try.runUnderlying47 rfl) rfl ?_
  refine O.ex (Ex.assign rfl) rfl ?_
  refine O.nil ?_
  refine hK1 _ _ _ ?_
  refine W.ret ?_
  try dsimp only [thenQ, blockQ, retQ]
  first | refine ⟨_, ⟨_, _, rfl, rfl, rfl⟩, ?_⟩ | (refine retD_mark ?_; intro w H; refine ⟨_, ⟨_, _, rfl, rfl, rfl⟩, ?_⟩) | (refine retD_mark2 ?_; intro w H; refine ⟨_, ⟨_, _, rfl, rfl, rfl⟩, ?_⟩)
  exact ⟨by simp only [oneOf, hr.la], rgS_open.2 ⟨vv, at_, f, hr, rgOS_open.2 (Holds.to (by assumption))⟩⟩
theorem newSG_ct {w : World} {n : Int} {L : List HProp} (H : Holds w L) :
    CT Try.prog 37 [.int .i64 n] w fun u w' => (¬ (1 ≤ n ∧ n ≤ 32) ∧ u = .tuple #[.pointer none, .int .i64 1] ∧ Holds w' L) ∨
      ((1 ≤ n ∧ n ≤ 32) ∧ ∃ s, u = .tuple #[.pointer (some ⟨s, 0, none⟩), .int .i64 0] ∧ Holds w' (RgS s n.toNat ([] : List ByteArray) :: L)) := by
  refine CT.enter (N := 14) Try.func37 rfl rfl rfl rfl ?_
  refine W.seq (fun K0 hK0 => ?_)
  refine W.region ?_
  refine O.ex (Ex.assign rfl) rfl ?_
  refine O.ex (Ex.assign rfl) rfl ?_
  refine O.nil ?_
  refine hK0 _ _ _ ?_
  refine W.seq (fun K1 hK1 => ?_)
  refine W.seq (fun K2 hK2 => ?_)
  refine W.region ?_
  refine O.ex (Ex.move rfl) rfl ?_
  refine O.ex (Ex.lss rfl rfl) rfl ?_
  refine O.ex (Ex.move rfl) rfl ?_
  first | refine O.split_p (t := 6) rfl (fun h6 => ?_) (fun h6 => ?_) | refine O.split (t := 6) rfl (fun h6 => ?_) (fun h6 => ?_)
  · refine O.guard_f rfl rfl rfl rfl ?_
    refine O.guard_f rfl rfl rfl rfl ?_
    refine O.ex (Ex.pick_t rfl rfl) rfl ?_
    refine O.nil ?_
    refine hK2 _ _ _ ?_
    refine W.cond_t rfl ?_
    refine W.seq (fun K3 hK3 => ?_)
    refine W.region ?_
    refine O.ex (Ex.assign rfl) rfl ?_
    refine O.ex (Ex.assign rfl) rfl ?_
    refine O.nil ?_
    refine hK3 _ _ _ ?_
    refine W.ret ?_
    try dsimp only [thenQ, blockQ, retQ]
    first | refine ⟨_, ⟨_, _, rfl, rfl, _, _, rfl, rfl, rfl⟩, ?_⟩ | (refine retD_mark ?_; intro w H; refine ⟨_, ⟨_, _, rfl, rfl, _, _, rfl, rfl, rfl⟩, ?_⟩) | (refine retD_mark2 ?_; intro w H; refine ⟨_, ⟨_, _, rfl, rfl, _, _, rfl, rfl, rfl⟩, ?_⟩)
    first
    | exact .inl ⟨by omega, rfl, by assumption⟩
    | exact .inr ⟨by omega, _, rfl, rgS_open.2 ⟨_, _, 0, Rep.new ByteArray.empty (by omega) (by omega), rgOS_open.2 (Holds.to (by assumption))⟩⟩
  · refine O.guard_t rfl rfl ?_
    refine O.ex (Ex.move rfl) rfl ?_
    refine O.guard_t rfl rfl ?_
    refine O.ex (Ex.gtr rfl rfl) rfl ?_
    refine O.ex (Ex.pick_f rfl rfl) rfl ?_
    refine O.nil ?_
    refine hK2 _ _ _ ?_
    first | refine W.cond_p rfl (fun h9 => ?_) (fun h9 => ?_) | refine W.cond_b rfl (fun h9 => ?_) (fun h9 => ?_)
    · refine W.seq (fun K4 hK4 => ?_)
      refine W.region ?_
      refine O.ex (Ex.assign rfl) rfl ?_
      refine O.ex (Ex.assign rfl) rfl ?_
      refine O.nil ?_
      refine hK4 _ _ _ ?_
      refine W.ret ?_
      try dsimp only [thenQ, blockQ, retQ]
      first | refine ⟨_, ⟨_, _, rfl, rfl, _, _, rfl, rfl, rfl⟩, ?_⟩ | (refine retD_mark ?_; intro w H; refine ⟨_, ⟨_, _, rfl, rfl, _, _, rfl, rfl, rfl⟩, ?_⟩) | (refine retD_mark2 ?_; intro w H; refine ⟨_, ⟨_, _, rfl, rfl, _, _, rfl, rfl, rfl⟩, ?_⟩)
      first
      | exact .inl ⟨by omega, rfl, by assumption⟩
      | exact .inr ⟨by omega, _, rfl, rgS_open.2 ⟨_, _, 0, Rep.new ByteArray.empty (by omega) (by omega), rgOS_open.2 (Holds.to (by assumption))⟩⟩
    · refine W.skip ?_
      refine hK1 _ _ _ ?_
      refine W.seq (fun K5 hK5 => ?_)
      refine W.region ?_
      refine O.ex (Ex.move rfl) rfl ?_
      refine O.makeR ByteArray.empty (e := Value.string) (bt := 16) Try.runUnderlying47 Try.sizeOf9 Try.zeroValue9 Try.typeInfo9 rfl rfl rfl (fun s11 w hs11 H => ?_)
      refine O.ex (Ex.build rfl (bld98_0 _ (by first | rfl | assumption))) rfl ?_
      refine O.boxP rfl (fun b13 w H => ?_)
      refine O.ex (Ex.assign rfl) rfl ?_
      refine O.ex (Ex.assign rfl) rfl ?_
      refine O.nil ?_
      refine hK5 _ _ _ ?_
      refine W.ret ?_
      try dsimp only [thenQ, blockQ, retQ]
      first | refine ⟨_, ⟨_, _, rfl, rfl, _, _, rfl, rfl, rfl⟩, ?_⟩ | (refine retD_mark ?_; intro w H; refine ⟨_, ⟨_, _, rfl, rfl, _, _, rfl, rfl, rfl⟩, ?_⟩) | (refine retD_mark2 ?_; intro w H; refine ⟨_, ⟨_, _, rfl, rfl, _, _, rfl, rfl, rfl⟩, ?_⟩)
      first
      | exact .inl ⟨by omega, rfl, by assumption⟩
      | exact .inr ⟨by omega, _, rfl, rgS_open.2 ⟨_, _, 0, Rep.new ByteArray.empty (by omega) (by omega), rgOS_open.2 (Holds.to (by assumption))⟩⟩
theorem pushS_ct {w : World} {s k : Nat} {xs : List ByteArray} {v : ByteArray} {L : List HProp} (H : Holds w (RgS s k xs :: L)) :
    CT Try.prog 38 [.pointer (some ⟨s, 0, none⟩), .string v] w fun u w' => u = .tuple #[.string (if xs.length = k then xs.headD ByteArray.empty else ByteArray.empty), .bool (decide (xs.length = k))] ∧ Holds w' (RgS s k ((if xs.length = k then xs.tail else xs) ++ [v]) :: L) := by
  obtain ⟨vv, at_, f, hr, H⟩ := rgS_open.1 H
  have H := rgOS_open.1 H
  have k0 := hr.k0
  have k1 := hr.k1
  have la := hr.la
  have f0 := hr.f0
  have f1 := hr.f1
  have lx := hr.lx
  refine CT.enter (N := 58) Try.func38 rfl rfl rfl rfl ?_
  refine W.seq (fun K0 hK0 => ?_)
  refine W.region ?_
  refine O.ex (Ex.assign rfl) rfl ?_
  refine O.ex (Ex.assign rfl) rfl ?_
  refine O.nil ?_
  refine hK0 _ _ _ ?_
  refine W.seq (fun K1 hK1 => ?_)
  refine W.region ?_
  refine O.ex (Ex.assign rfl) rfl ?_
  refine O.nil ?_
  refine hK1 _ _ _ ?_
  refine W.seq (fun K2 hK2 => ?_)
  refine W.drawTo _ (.take 0 (.take 1 (.take 2 (.take 3 (.take 4 (.take 5 (.take 6 (.take 7 (.take 8 (.take 9 (.take 10 .nil))))))))))) (mixed) (fun _ _ _ _ h => h) (by assumption) (PP.refl _) (by decide +kernel) (fun w H => ?_)
  refine OQ.ex rfl (fun w H => (Ex.move rfl)) rfl ?_
  refine OQ.ex rfl (fun w H => (by first | exact Ex.nilPtr rfl | exact Ex.nilFunc rfl | exact Ex.nilYield rfl)) rfl ?_
  refine OQ.ex rfl (fun w H => (by first | exact Ex.field0 fld98_2 rfl | exact Ex.field fld98_2 rfl | exact Ex.fieldS fld98_2 rfl)) rfl ?_
  refine OQ.ex rfl (fun w H => (by first | exact Ex.loadP Try.isAgg3 rfl | exact Ex.loadR Try.isAgg3 rfl | exact Ex.loadIn1 Try.isAgg3 rfl (Holds.to (by assumption)))) rfl ?_
  refine OQ.ex rfl (fun w H => (Ex.move rfl)) rfl ?_
  refine OQ.ex rfl (fun w H => (by first | exact Ex.nilPtr rfl | exact Ex.nilFunc rfl | exact Ex.nilYield rfl)) rfl ?_
  refine OQ.ex rfl (fun w H => (by first | exact Ex.field0 fld98_0 rfl | exact Ex.field fld98_0 rfl | exact Ex.fieldS fld98_0 rfl)) rfl ?_
  refine OQ.ex rfl (fun w H => (by first | exact Ex.loadP Try.isAgg47 rfl | exact Ex.loadR Try.isAgg47 rfl | exact Ex.loadIn1 Try.isAgg47 rfl (Holds.to (by assumption)))) rfl ?_
  refine OQ.ex rfl (fun w H => (by first | exact Ex.lenR Try.runUnderlying47 rfl | exact Ex.lenIn Try.runUnderlying47 rfl | exact Ex.lenL Try.runUnderlying47 rfl | exact Ex.len rfl Try.runUnderlying47 rfl)) rfl ?_
  refine OQ.ex rfl (fun w H => (Ex.eqlI rfl rfl)) rfl ?_
  refine OQ.ex rfl (fun w H => (Ex.assign rfl)) rfl ?_
  refine OQ.done ?_
  refine hK2 _ _ _ ?_
  refine W.seq (fun K3 hK3 => ?_)
  refine W.seq (fun K4 hK4 => ?_)
  refine W.region ?_
  refine O.ex (Ex.move rfl) rfl ?_
  refine O.nil ?_
  refine hK4 _ _ _ ?_
  first | refine W.cond_p rfl (fun hfull => ?_) (fun hnot => ?_) | refine W.cond_b rfl (fun hfull => ?_) (fun hnot => ?_)
  · refine W.seq (fun K5 hK5 => ?_)
    refine W.region ?_
    obtain ⟨x, xs, rfl⟩ : ∃ x ys, xs = x :: ys := by cases xs with | nil => simp only [List.length_nil] at hfull; omega | cons x ys => exact ⟨x, ys, rfl⟩
    refine O.ex (Ex.move rfl) rfl ?_
    refine O.ex (Ex.move rfl) rfl ?_
    refine O.ex (by first | exact Ex.nilPtr rfl | exact Ex.nilFunc rfl | exact Ex.nilYield rfl) rfl ?_
    refine O.ex (by first | exact Ex.field0 fld98_1 rfl | exact Ex.field fld98_1 rfl | exact Ex.fieldS fld98_1 rfl) rfl ?_
    refine O.ex (by first | exact Ex.loadP Try.isAgg3 rfl | exact Ex.loadR Try.isAgg3 rfl | exact Ex.loadIn1 Try.isAgg3 rfl (Holds.to (by assumption))) rfl ?_
    refine O.callF Try.call56 rfl rfl (CT.mono (outS_ct (Holds.to (by assumption)) (by omega) (by omega)) ?_)
    rintro _ w ⟨rfl, H⟩
    refine O.ex (Ex.assign rfl) rfl ?_
    refine O.nil ?_
    refine hK5 _ _ _ ?_
    refine W.seq (fun K6 hK6 => ?_)
    refine W.region ?_
    refine O.ex (Ex.move rfl) rfl ?_
    refine O.ex (Ex.move rfl) rfl ?_
    refine O.callF Try.call57 rfl rfl (CT.mono (placeS_ct (k := k) (Holds.to (by assumption)) (by simp only [List.length_set]; omega) (by simp only [List.length_set]; omega) (by omega) (by omega) (by omega) (by omega) (by simp only [List.length_set]; exact la)) ?_)
    rintro _ w ⟨rfl, H⟩
    refine O.ex (by first | exact Ex.nilPtr rfl | exact Ex.nilFunc rfl | exact Ex.nilYield rfl) rfl ?_
    refine O.ex (by first | exact Ex.field0 fld98_1 rfl | exact Ex.field fld98_1 rfl | exact Ex.fieldS fld98_1 rfl) rfl ?_
    first | refine O.storeP Try.sizeOf3 rfl rfl (fun w H => ?_) | refine O.storeR Try.sizeOf3 rfl rfl (fun w H => ?_)
    refine O.nil ?_
    refine hK6 _ _ _ ?_
    refine W.region ?_
    refine O.ex (Ex.move rfl) rfl ?_
    refine O.ex (by first | exact Ex.nilPtr rfl | exact Ex.nilFunc rfl | exact Ex.nilYield rfl) rfl ?_
    refine O.ex (by first | exact Ex.field0 fld98_2 rfl | exact Ex.field fld98_2 rfl | exact Ex.fieldS fld98_2 rfl) rfl ?_
    refine O.ex (by first | exact Ex.loadP Try.isAgg3 rfl | exact Ex.loadR Try.isAgg3 rfl | exact Ex.loadIn1 Try.isAgg3 rfl (Holds.to (by assumption))) rfl ?_
    refine O.ex (by first | exact Ex.subI rfl rfl | exact Ex.sub rfl rfl rfl) rfl ?_
    refine O.ex (by first | exact Ex.nilPtr rfl | exact Ex.nilFunc rfl | exact Ex.nilYield rfl) rfl ?_
    refine O.ex (by first | exact Ex.field0 fld98_2 rfl | exact Ex.field fld98_2 rfl | exact Ex.fieldS fld98_2 rfl) rfl ?_
    first | refine O.storeP Try.sizeOf3 rfl rfl (fun w H => ?_) | refine O.storeR Try.sizeOf3 rfl rfl (fun w H => ?_)
    obtain ⟨e1, hr⟩ := hr.tail ByteArray.empty
    have hlt0 : xs.length < k := by simp only [List.length_cons] at lx; omega
    have en : (((x :: xs).length : Nat) : Int) - 1 = xs.length := by simp only [List.length_cons]; omega
    refine O.nil ?_
    refine hK3 _ _ _ ?_
    refine W.seq (fun K7 hK7 => ?_)
    first | have hlt := hlt0 | have hlt : xs.length < k := by omega
    have hix := hr.ixn hlt
    have la := hr.la
    have k0 := hr.k0
    have f0 := hr.f0
    have f1 := hr.f1
    try simp only [en] at H
    have s1 := arr_sl (T := 9) (e := Value.string) (v := vv) (Holds.to (by assumption)) (by omega)
    refine W.drawTo (pt s _ :: []) (.take 0 (.take 1 (.take 2 (.take 3 (.take 4 (.take 5 (.take 6 (.take 7 (.take 8 (.take 10 (.one 9 (.take 11 (.one 12 .nil))))))))))))) (mixed) (fun _ _ _ _ h => h) (by assumption) PP.auto (by decide +kernel) (fun w H => ?_)
    refine OQ.ex rfl (fun w H => (Ex.move rfl)) rfl ?_
    refine OQ.ex rfl (fun w H => (by first | exact Ex.nilPtr rfl | exact Ex.nilFunc rfl | exact Ex.nilYield rfl)) rfl ?_
    refine OQ.ex rfl (fun w H => (by first | exact Ex.field0 fld98_0 rfl | exact Ex.field fld98_0 rfl | exact Ex.fieldS fld98_0 rfl)) rfl ?_
    refine OQ.ex rfl (fun w H => (by first | exact Ex.loadP Try.isAgg47 rfl | exact Ex.loadR Try.isAgg47 rfl | exact Ex.loadIn1 Try.isAgg47 rfl (Holds.to (by assumption)))) rfl ?_
    refine OQ.ex rfl (fun w H => (Ex.move rfl)) rfl ?_
    refine OQ.ex rfl (fun w H => (Ex.move rfl)) rfl ?_
    refine OQ.ex rfl (fun w H => (by first | exact Ex.nilPtr rfl | exact Ex.nilFunc rfl | exact Ex.nilYield rfl)) rfl ?_
    refine OQ.ex rfl (fun w H => (by first | exact Ex.field0 fld98_2 rfl | exact Ex.field fld98_2 rfl | exact Ex.fieldS fld98_2 rfl)) rfl ?_
    refine OQ.ex rfl (fun w H => (by first | exact Ex.loadP Try.isAgg3 rfl | exact Ex.loadR Try.isAgg3 rfl | exact Ex.loadIn1 Try.isAgg3 rfl (Holds.to (by assumption)))) rfl ?_
    refine OQ.ex rfl (fun w H => (Ex.move rfl)) rfl ?_
    refine OQ.step rfl ?_
    refine O.callF Try.call57 rfl rfl (CT.mono (placeS_ct (k := k) (Holds.to (by assumption)) (by omega) (by omega) (by omega) (by omega) (by omega) (by omega) la) ?_)
    rintro _ w ⟨rfl, H⟩
    refine O.thenNil ⟨(by first | exact Holds.to (by assumption) | assumption), ?_⟩
    refine OQ.ex rfl (fun w H => (by first | exact Ex.idxR Try.runUnderlying47 Try.sizeOf9 rfl rfl | exact Ex.idxIn Try.runUnderlying47 Try.sizeOf9 rfl rfl | exact Ex.idxS Try.runUnderlying47 Try.sizeOf9 rfl rfl | exact Ex.idx Try.runUnderlying47 Try.sizeOf9 rfl rfl (by omega) (by omega))) rfl ?_
    refine OQ.last rfl (by decide +kernel) ?_
    first | refine O.storeP Try.sizeOf9 rfl rfl (fun w H => ?_) | refine O.storeR Try.sizeOf9 rfl rfl (fun w H => ?_)
    refine O.nil ?_
    refine hK7 _ _ _ ?_
    refine W.seq (fun K8 hK8 => ?_)
    refine W.region ?_
    refine O.ex (Ex.move rfl) rfl ?_
    refine O.ex (by first | exact Ex.nilPtr rfl | exact Ex.nilFunc rfl | exact Ex.nilYield rfl) rfl ?_
    refine O.ex (by first | exact Ex.field0 fld98_2 rfl | exact Ex.field fld98_2 rfl | exact Ex.fieldS fld98_2 rfl) rfl ?_
    refine O.ex (by first | exact Ex.loadP Try.isAgg3 rfl | exact Ex.loadR Try.isAgg3 rfl | exact Ex.loadIn1 Try.isAgg3 rfl (Holds.to (by assumption))) rfl ?_
    refine O.ex (by first | exact Ex.addI rfl rfl | exact Ex.add rfl rfl rfl) rfl ?_
    refine O.ex (by first | exact Ex.nilPtr rfl | exact Ex.nilFunc rfl | exact Ex.nilYield rfl) rfl ?_
    refine O.ex (by first | exact Ex.field0 fld98_2 rfl | exact Ex.field fld98_2 rfl | exact Ex.fieldS fld98_2 rfl) rfl ?_
    first | refine O.storeP Try.sizeOf3 rfl rfl (fun w H => ?_) | refine O.storeR Try.sizeOf3 rfl rfl (fun w H => ?_)
    refine O.nil ?_
    refine hK8 _ _ _ ?_
    refine W.seq (fun K9 hK9 => ?_)
    refine W.region ?_
    refine O.ex (Ex.move rfl) rfl ?_
    refine O.ex (Ex.move rfl) rfl ?_
    refine O.ex (Ex.assign rfl) rfl ?_
    refine O.ex (Ex.assign rfl) rfl ?_
    refine O.nil ?_
    refine hK9 _ _ _ ?_
    refine W.ret ?_
    try dsimp only [thenQ, blockQ, retQ]
    first | refine ⟨_, ⟨_, _, rfl, rfl, _, _, rfl, rfl, rfl⟩, ?_⟩ | (refine retD_mark ?_; intro w H; refine ⟨_, ⟨_, _, rfl, rfl, _, _, rfl, rfl, rfl⟩, ?_⟩) | (refine retD_mark2 ?_; intro w H; refine ⟨_, ⟨_, _, rfl, rfl, _, _, rfl, rfl, rfl⟩, ?_⟩)
    have en2 : (((xs ++ [v]).length : Nat) : Int) = xs.length + 1 := by simp
    have hr2 := hr.push v hlt
    first
    | (have hk : (x :: xs).length = k := by omega
       refine ⟨by rw [e1, decide_eq_true hfull, if_pos hk, decide_eq_true hk] <;> rfl, ?_⟩
       rw [if_pos hk]
       show Holds w (RgS s k (xs ++ [v]) :: L)
       exact rgS_open.2 ⟨vv, _, _, hr2, rgOS_open.2 (by rw [en2]; exact Holds.to (by assumption))⟩)
    | (have hk : ¬ xs.length = k := by omega
       refine ⟨by rw [decide_eq_false hnot, if_neg hk, decide_eq_false hk] <;> rfl, ?_⟩
       rw [if_neg hk]
       exact rgS_open.2 ⟨vv, _, _, hr2, rgOS_open.2 (by rw [en2]; exact Holds.to (by assumption))⟩)
  · refine W.skip ?_
    refine hK3 _ _ _ ?_
    refine W.seq (fun K10 hK10 => ?_)
    first | have hlt := hlt0 | have hlt : xs.length < k := by omega
    have hix := hr.ixn hlt
    have la := hr.la
    have k0 := hr.k0
    have f0 := hr.f0
    have f1 := hr.f1
    try simp only [en] at H
    have s1 := arr_sl (T := 9) (e := Value.string) (v := vv) (Holds.to (by assumption)) (by omega)
    refine W.drawTo (pt s _ :: []) (.take 0 (.take 1 (.take 2 (.take 3 (.take 4 (.take 5 (.take 6 (.take 7 (.take 8 (.take 10 (.one 9 (.take 11 (.one 12 .nil))))))))))))) (mixed) (fun _ _ _ _ h => h) (by assumption) PP.auto (by decide +kernel) (fun w H => ?_)
    refine OQ.ex rfl (fun w H => (Ex.move rfl)) rfl ?_
    refine OQ.ex rfl (fun w H => (by first | exact Ex.nilPtr rfl | exact Ex.nilFunc rfl | exact Ex.nilYield rfl)) rfl ?_
    refine OQ.ex rfl (fun w H => (by first | exact Ex.field0 fld98_0 rfl | exact Ex.field fld98_0 rfl | exact Ex.fieldS fld98_0 rfl)) rfl ?_
    refine OQ.ex rfl (fun w H => (by first | exact Ex.loadP Try.isAgg47 rfl | exact Ex.loadR Try.isAgg47 rfl | exact Ex.loadIn1 Try.isAgg47 rfl (Holds.to (by assumption)))) rfl ?_
    refine OQ.ex rfl (fun w H => (Ex.move rfl)) rfl ?_
    refine OQ.ex rfl (fun w H => (Ex.move rfl)) rfl ?_
    refine OQ.ex rfl (fun w H => (by first | exact Ex.nilPtr rfl | exact Ex.nilFunc rfl | exact Ex.nilYield rfl)) rfl ?_
    refine OQ.ex rfl (fun w H => (by first | exact Ex.field0 fld98_2 rfl | exact Ex.field fld98_2 rfl | exact Ex.fieldS fld98_2 rfl)) rfl ?_
    refine OQ.ex rfl (fun w H => (by first | exact Ex.loadP Try.isAgg3 rfl | exact Ex.loadR Try.isAgg3 rfl | exact Ex.loadIn1 Try.isAgg3 rfl (Holds.to (by assumption)))) rfl ?_
    refine OQ.ex rfl (fun w H => (Ex.move rfl)) rfl ?_
    refine OQ.step rfl ?_
    refine O.callF Try.call57 rfl rfl (CT.mono (placeS_ct (k := k) (Holds.to (by assumption)) (by omega) (by omega) (by omega) (by omega) (by omega) (by omega) la) ?_)
    rintro _ w ⟨rfl, H⟩
    refine O.thenNil ⟨(by first | exact Holds.to (by assumption) | assumption), ?_⟩
    refine OQ.ex rfl (fun w H => (by first | exact Ex.idxR Try.runUnderlying47 Try.sizeOf9 rfl rfl | exact Ex.idxIn Try.runUnderlying47 Try.sizeOf9 rfl rfl | exact Ex.idxS Try.runUnderlying47 Try.sizeOf9 rfl rfl | exact Ex.idx Try.runUnderlying47 Try.sizeOf9 rfl rfl (by omega) (by omega))) rfl ?_
    refine OQ.last rfl (by decide +kernel) ?_
    first | refine O.storeP Try.sizeOf9 rfl rfl (fun w H => ?_) | refine O.storeR Try.sizeOf9 rfl rfl (fun w H => ?_)
    refine O.nil ?_
    refine hK10 _ _ _ ?_
    refine W.seq (fun K11 hK11 => ?_)
    refine W.region ?_
    refine O.ex (Ex.move rfl) rfl ?_
    refine O.ex (by first | exact Ex.nilPtr rfl | exact Ex.nilFunc rfl | exact Ex.nilYield rfl) rfl ?_
    refine O.ex (by first | exact Ex.field0 fld98_2 rfl | exact Ex.field fld98_2 rfl | exact Ex.fieldS fld98_2 rfl) rfl ?_
    refine O.ex (by first | exact Ex.loadP Try.isAgg3 rfl | exact Ex.loadR Try.isAgg3 rfl | exact Ex.loadIn1 Try.isAgg3 rfl (Holds.to (by assumption))) rfl ?_
    refine O.ex (by first | exact Ex.addI rfl rfl | exact Ex.add rfl rfl rfl) rfl ?_
    refine O.ex (by first | exact Ex.nilPtr rfl | exact Ex.nilFunc rfl | exact Ex.nilYield rfl) rfl ?_
    refine O.ex (by first | exact Ex.field0 fld98_2 rfl | exact Ex.field fld98_2 rfl | exact Ex.fieldS fld98_2 rfl) rfl ?_
    first | refine O.storeP Try.sizeOf3 rfl rfl (fun w H => ?_) | refine O.storeR Try.sizeOf3 rfl rfl (fun w H => ?_)
    refine O.nil ?_
    refine hK11 _ _ _ ?_
    refine W.seq (fun K12 hK12 => ?_)
    refine W.region ?_
    refine O.ex (Ex.move rfl) rfl ?_
    refine O.ex (Ex.move rfl) rfl ?_
    refine O.ex (Ex.assign rfl) rfl ?_
    refine O.ex (Ex.assign rfl) rfl ?_
    refine O.nil ?_
    refine hK12 _ _ _ ?_
    refine W.ret ?_
    try dsimp only [thenQ, blockQ, retQ]
    first | refine ⟨_, ⟨_, _, rfl, rfl, _, _, rfl, rfl, rfl⟩, ?_⟩ | (refine retD_mark ?_; intro w H; refine ⟨_, ⟨_, _, rfl, rfl, _, _, rfl, rfl, rfl⟩, ?_⟩) | (refine retD_mark2 ?_; intro w H; refine ⟨_, ⟨_, _, rfl, rfl, _, _, rfl, rfl, rfl⟩, ?_⟩)
    have en2 : (((xs ++ [v]).length : Nat) : Int) = xs.length + 1 := by simp
    have hr2 := hr.push v hlt
    first
    | (have hk : (x :: xs).length = k := by omega
       refine ⟨by rw [e1, decide_eq_true hfull, if_pos hk, decide_eq_true hk] <;> rfl, ?_⟩
       rw [if_pos hk]
       show Holds w (RgS s k (xs ++ [v]) :: L)
       exact rgS_open.2 ⟨vv, _, _, hr2, rgOS_open.2 (by rw [en2]; exact Holds.to (by assumption))⟩)
    | (have hk : ¬ xs.length = k := by omega
       refine ⟨by rw [decide_eq_false hnot, if_neg hk, decide_eq_false hk] <;> rfl, ?_⟩
       rw [if_neg hk]
       exact rgS_open.2 ⟨vv, _, _, hr2, rgOS_open.2 (by rw [en2]; exact Holds.to (by assumption))⟩)
theorem allSG_ct {w : World} {s : Nat} {L : List HProp} (H : Holds w L) :
    CT Try.prog 39 [.pointer (some ⟨s, 0, none⟩)] w fun u w' => ∃ c, u = .func (.func 58) #[] #[.pointer (some ⟨c, 0, none⟩)] ∧ Holds w' (pt c (.cells #[.pointer (some ⟨s, 0, none⟩)] 68 (0, 0)) :: L) := by
  refine CT.enter (N := 4) Try.func39 rfl rfl rfl rfl ?_
  refine W.seq (fun K0 hK0 => ?_)
  refine W.region ?_
  refine O.boxP rfl (fun b1 w H => ?_)
  refine O.ex (Ex.assign rfl) rfl ?_
  refine O.nil ?_
  refine hK0 _ _ _ ?_
  refine W.seq (fun K1 hK1 => ?_)
  refine W.region ?_
  refine O.ex (Ex.makeFunc rfl rfl) rfl ?_
  refine O.ex (Ex.assign rfl) rfl ?_
  refine O.nil ?_
  refine hK1 _ _ _ ?_
  refine W.ret ?_
  try dsimp only [thenQ, blockQ, retQ]
  first | refine ⟨_, ⟨_, _, rfl, rfl, rfl⟩, ?_⟩ | (refine retD_mark ?_; intro w H; refine ⟨_, ⟨_, _, rfl, rfl, rfl⟩, ?_⟩) | (refine retD_mark2 ?_; intro w H; refine ⟨_, ⟨_, _, rfl, rfl, rfl⟩, ?_⟩)
  exact ⟨_, rfl, Holds.to (by assumption)⟩
def capSG (c s : Nat) : HProp := pt c (.cells #[.pointer (some ⟨s, 0, none⟩)] 68 (0, 0))
theorem all1SG_ct {w : World} {c s k : Nat} {vv : Value} {at_ xs : List ByteArray} {f : Int} {fv : Value} {J : Nat → List HProp} {φ : Nat → Prop} {S : World → Prop} (hr : Rep at_ f xs k)
    (H : Holds w (capSG c s :: RgOS s vv at_ f xs.length :: J 0)) (hφ : φ 0) (hS : ∀ w, S w → Holds w [capSG c s, RgOS s vv at_ f xs.length])
    (hy : ∀ (j : Nat) w, j < xs.length → φ j → Holds w (capSG c s :: RgOS s vv at_ f xs.length :: J j) →
      VT Try.prog fv [.string (xs.getD (xs.length - 1 - j) default)] w fun u w' => (u = .bool true ∧ φ (j + 1) ∧ Holds w' (capSG c s :: RgOS s vv at_ f xs.length :: J (j + 1))) ∨ (u = .bool false ∧ S w')) :
    CT Try.prog 58 [fv, .pointer (some ⟨c, 0, none⟩)] w fun _ w' => (φ xs.length ∧ Holds w' (capSG c s :: RgOS s vv at_ f xs.length :: J xs.length)) ∨ S w' := by
  have H := Holds.f2 (rgOS_open.1 H.swap)
  unfold capSG at H
  have k0 := hr.k0
  have k1 := hr.k1
  have la := hr.la
  have f0 := hr.f0
  have f1 := hr.f1
  have lx := hr.lx
  refine CT.enter (N := 25) Try.func58 rfl rfl rfl rfl ?_
  refine W.seq (fun K0 hK0 => ?_)
  refine W.region ?_
  refine O.ex (by first | exact Ex.loadP Try.isAgg68 rfl | exact Ex.loadR Try.isAgg68 rfl | exact Ex.loadIn1 Try.isAgg68 rfl (Holds.to (by assumption))) rfl ?_
  refine O.ex (by first | exact Ex.nilPtr rfl | exact Ex.nilFunc rfl | exact Ex.nilYield rfl) rfl ?_
  refine O.ex (by first | exact Ex.field0 fld98_2 rfl | exact Ex.field fld98_2 rfl | exact Ex.fieldS fld98_2 rfl) rfl ?_
  refine O.ex (by first | exact Ex.loadP Try.isAgg3 rfl | exact Ex.loadR Try.isAgg3 rfl | exact Ex.loadIn1 Try.isAgg3 rfl (Holds.to (by assumption))) rfl ?_
  refine O.ex (by first | exact Ex.subI rfl rfl | exact Ex.sub rfl rfl rfl) rfl ?_
  refine O.ex (Ex.assign rfl) rfl ?_
  refine O.nil ?_
  refine hK0 _ _ _ ?_
  refine W.block ?_
  refine W.loop (σ := Nat) (fun j => [(0, fv), (1, .pointer (some ⟨c, 0, none⟩)), (3, .int .i64 ((xs.length : Int) - 1 - j))]) (fun j ds w => ds = [] ∧ j ≤ xs.length ∧ φ j ∧ Holds w (capSG c s :: RgOS s vv at_ f xs.length :: J j)) (fun j => xs.length - j) 0 ⟨rfl, rfl, by rw [show (xs.length : Int) - 1 - ((0 : Nat) : Int) = xs.length - 1 from by omega]; rfl, trivial⟩ ⟨rfl, by omega, hφ, Holds.to (rgOS_open.2 (Holds.to (by assumption)))⟩ ?_
  clear H
  rintro j _ w ⟨rfl, hj, hφj, H⟩
  have H := Holds.f2 (rgOS_open.1 H.swap)
  unfold capSG at H
  refine W.seq (fun K1 hK1 => ?_)
  refine W.seq (fun K2 hK2 => ?_)
  refine W.region ?_
  refine O.ex (Ex.move rfl) rfl ?_
  refine O.ex (Ex.geq rfl rfl) rfl ?_
  refine O.nil ?_
  refine hK2 _ _ _ ?_
  first | refine W.cond_p rfl (fun hin => ?_) (fun hout => ?_) | refine W.cond_b rfl (fun hin => ?_) (fun hout => ?_)
  · refine W.skip ?_
    refine hK1 _ _ _ ?_
    refine W.seq (fun K3 hK3 => ?_)
    refine W.block ?_
    refine W.seq (fun K4 hK4 => ?_)
    have hg : at_.getD ((f + ((xs.length : Int) - 1 - j)) % k).toNat default = xs.getD (xs.length - 1 - j) default := by
      rw [show ((xs.length : Int) - 1 - j) = ((xs.length - 1 - j : Nat) : Int) from by omega]; exact hr.get _ (by omega)
    have hix := hr.ix ((xs.length : Int) - 1 - j) (by omega) (by omega)
    have s1 := arr_sl (T := 9) (e := Value.string) (v := vv) (Holds.to (by assumption)) (by omega)
    refine W.drawTo (pt c _ :: pt s _ :: arr 9 (Value.string) vv _ :: []) (.take 0 (.take 1 (.take 2 (.take 3 (.take 4 (.take 5 (.take 6 (.one 7 (.take 8 (.one 9 (.one 10 (.take 11 .nil)))))))))))) (mixed) (fun _ _ _ _ h => h) (by assumption) PP.auto (by decide +kernel) (fun w H => ?_)
    refine OQ.ex rfl (fun w H => (Ex.move rfl)) rfl ?_
    refine OQ.ex rfl (fun w H => (by first | exact Ex.loadP Try.isAgg68 rfl | exact Ex.loadR Try.isAgg68 rfl | exact Ex.loadIn1 Try.isAgg68 rfl (Holds.to (by assumption)))) rfl ?_
    refine OQ.ex rfl (fun w H => (by first | exact Ex.nilPtr rfl | exact Ex.nilFunc rfl | exact Ex.nilYield rfl)) rfl ?_
    refine OQ.ex rfl (fun w H => (by first | exact Ex.field0 fld98_0 rfl | exact Ex.field fld98_0 rfl | exact Ex.fieldS fld98_0 rfl)) rfl ?_
    refine OQ.ex rfl (fun w H => (by first | exact Ex.loadP Try.isAgg47 rfl | exact Ex.loadR Try.isAgg47 rfl | exact Ex.loadIn1 Try.isAgg47 rfl (Holds.to (by assumption)))) rfl ?_
    refine OQ.ex rfl (fun w H => (by first | exact Ex.loadP Try.isAgg68 rfl | exact Ex.loadR Try.isAgg68 rfl | exact Ex.loadIn1 Try.isAgg68 rfl (Holds.to (by assumption)))) rfl ?_
    refine OQ.ex rfl (fun w H => (Ex.move rfl)) rfl ?_
    refine OQ.step rfl ?_
    refine O.callF Try.call57 rfl rfl (CT.mono (placeS_ct (k := k) (Holds.to (by assumption)) (by omega) (by omega) (by omega) (by omega) (by omega) (by omega) la) ?_)
    rintro _ w ⟨rfl, H⟩
    refine O.thenNil ⟨(by first | exact Holds.to (by assumption) | assumption), ?_⟩
    refine OQ.ex rfl (fun w H => (by first | exact Ex.idxR Try.runUnderlying47 Try.sizeOf9 rfl rfl | exact Ex.idxIn Try.runUnderlying47 Try.sizeOf9 rfl rfl | exact Ex.idxS Try.runUnderlying47 Try.sizeOf9 rfl rfl | exact Ex.idx Try.runUnderlying47 Try.sizeOf9 rfl rfl (by omega) (by omega))) rfl ?_
    refine OQ.step rfl ?_
    refine O.ex (by first | exact Ex.loadP Try.isAgg9 rfl | exact Ex.loadR Try.isAgg9 rfl | exact Ex.loadIn1 Try.isAgg9 rfl (Holds.to (by assumption))) rfl ?_
    refine O.thenNil ⟨(by first | exact Holds.to (by assumption) | assumption), ?_⟩
    refine OQ.step rfl ?_
    rw [hg]
    refine O.callVT rfl rfl rfl (VT.mono (VT.two (hy j w (by omega) hφj (Holds.to (rgOS_open.2 (Holds.to (by assumption))))) (C := fun w' => Holds w' [capSG c s, RgOS s vv at_ f xs.length]) (fun _ h => Holds.to h.2) hS) ?_)
    rintro _ w ⟨b, rfl, H, hb⟩
    have H := Holds.f2 (rgOS_open.1 H.swap)
    unfold capSG at H
    refine O.thenNil ⟨(by first | exact Holds.to (by assumption) | assumption), ?_⟩
    refine OQ.ex rfl (fun w H => (by first | exact Ex.notD rfl | exact Ex.not rfl)) rfl ?_
    refine OQ.done ?_
    refine hK4 _ _ _ ?_
    first | refine W.cond_p rfl (fun hstop => ?_) (fun hgo => ?_) | refine W.cond_b rfl (fun hstop => ?_) (fun hgo => ?_)
    · refine W.ret ?_
      try dsimp only [thenQ, blockQ, retQ]
      first | refine ⟨_, rfl, ?_⟩ | (refine retD_mark ?_; intro w H; refine ⟨_, rfl, ?_⟩) | (refine retD_mark2 ?_; intro w H; refine ⟨_, rfl, ?_⟩)
      first
      | (rcases hb with ⟨rfl, _⟩ | ⟨_, hs⟩
         · simp at hstop
         · exact .inr hs)
      | (obtain rfl : j = xs.length := by omega
         exact .inl ⟨hφj, Holds.to (rgOS_open.2 (Holds.to (by assumption)))⟩)
    · refine W.skip ?_
      refine hK3 _ _ _ ?_
      refine W.region ?_
      refine O.ex (Ex.move rfl) rfl ?_
      refine O.ex (by first | exact Ex.subI rfl rfl | exact Ex.sub rfl rfl rfl) rfl ?_
      refine O.ex (Ex.assign rfl) rfl ?_
      refine O.nil ?_
      rcases hb with ⟨hb, hφ2, H⟩ | ⟨rfl, _⟩
      · exact ⟨j + 1, ⟨rfl, rfl, by rw [show (xs.length : Int) - 1 - ((j + 1 : Nat) : Int) = xs.length - 1 - j - 1 from by omega]; rfl, trivial⟩, ⟨rfl, by omega, hφ2, H⟩, by omega⟩
      · simp at hgo
  · refine W.exit ?_
    try dsimp only [thenQ, blockQ, retQ]
    first | refine ⟨_, rfl, ?_⟩ | (refine retD_mark ?_; intro w H; refine ⟨_, rfl, ?_⟩) | (refine retD_mark2 ?_; intro w H; refine ⟨_, rfl, ?_⟩)
    first
    | (rcases hb with ⟨rfl, _⟩ | ⟨_, hs⟩
       · simp at hstop
       · exact .inr hs)
    | (obtain rfl : j = xs.length := by omega
       exact .inl ⟨hφj, Holds.to (rgOS_open.2 (Holds.to (by assumption)))⟩)
theorem topS_ct {w : World} {s k : Nat} {xs : List ByteArray} {L : List HProp} (H : Holds w (RgS s k xs :: L)) :
    CT Try.prog 41 [.pointer (some ⟨s, 0, none⟩)] w fun u w' => u = .tuple #[.string (xs.getLastD ByteArray.empty), .bool (decide (xs.length ≠ 0))] ∧ Holds w' (RgS s k xs :: L) := by
  refine CT.enter (N := 11) Try.func41 rfl rfl rfl rfl ?_
  refine W.seq (fun K0 hK0 => ?_)
  refine W.region ?_
  refine O.allocP Try.zeroValue9 (fun b2 w H => ?_)
  refine O.allocP Try.zeroValue4 (fun b3 w H => ?_)
  refine O.nil ?_
  refine hK0 _ _ _ ?_
  refine W.seq (fun K1 hK1 => ?_)
  refine W.seq (fun K2 hK2 => ?_)
  refine W.region ?_
  refine O.ex (Ex.move rfl) rfl ?_
  refine O.callF Try.call39 rfl rfl (CT.mono (allSG_ct (by assumption)) ?_)
  rintro _ w ⟨c, rfl, H⟩
  refine O.nil ?_
  refine hK2 _ _ _ ?_
  refine W.block ?_
  obtain ⟨vv, at_, f, hr, H⟩ := rgS_open.1 (Holds.to (by assumption))
  refine W.rangeFunc rfl Try.call58 H ?_
  rintro LR kk D w hLR H
  refine CT.mono (all1SG_ct (c := c) (s := s) (vv := vv) hr (J := fun _ => LR .ready none :: dblk D :: pt b2 (.cells #[.string ByteArray.empty] 9 (0, 0)) :: pt b3 (.cells #[.bool false] 4 (0, 0)) :: L) (φ := fun j => j = 0)
    (S := fun w' => 0 < xs.length ∧ Holds w' (capSG c s :: RgOS s vv at_ f xs.length :: LR .done (some .ret) :: dblk D :: pt b2 (.cells #[.string (xs.getLastD ByteArray.empty)] 9 (0, 0)) :: pt b3 (.cells #[.bool true] 4 (0, 0)) :: L)) (Holds.to (by assumption)) rfl (fun w h => Holds.to h.2) ?_) ?_
  · intro j w hj hφ H
    obtain rfl : j = 0 := hφ
    have hl : xs.getD (xs.length - 1 - 0) default = xs.getLastD ByteArray.empty := by
      obtain ⟨ys, x, rfl⟩ : ∃ ys x, xs = ys ++ [x] := ⟨xs.dropLast, xs.getLast (by rintro rfl; simp at hj), (List.dropLast_concat_getLast _).symm⟩
      simp [List.getD_eq_getElem?_getD]
    rw [hl]
    refine VT.round hLR (Holds.to (by assumption)) rfl rfl ?_
    refine W.region ?_
    refine O.ex (Ex.assign rfl) rfl ?_
    refine O.nil ?_
    refine ⟨_, Holds.to (by assumption), fun w H => ?_⟩
    refine W.block ?_
    refine W.seq (fun K3 hK3 => ?_)
    refine W.region ?_
    refine O.ex (Ex.move rfl) rfl ?_
    first | refine O.storeP Try.sizeOf9 rfl rfl (fun w H => ?_) | refine O.storeR Try.sizeOf9 rfl rfl (fun w H => ?_)
    first | refine O.storeP Try.sizeOf4 rfl rfl (fun w H => ?_) | refine O.storeR Try.sizeOf4 rfl rfl (fun w H => ?_)
    refine O.nil ?_
    refine hK3 _ _ _ ?_
    refine W.ret ?_
    exact ⟨_, Holds.to (by assumption), fun w H => .inr ⟨rfl, by omega, Holds.to (by assumption)⟩⟩
  rintro _ w (⟨hφ, H⟩ | ⟨hpos, H⟩)
  all_goals refine rangeEnd (Holds.to (by assumption)) (by nofun) (fun w H => ?_)
  · skip
    refine hK1 _ _ _ ?_
    refine W.seq (fun K4 hK4 => ?_)
    refine W.region ?_
    refine O.ex (Ex.assign rfl) rfl ?_
    refine O.nil ?_
    refine hK4 _ _ _ ?_
    refine W.seq (fun K5 hK5 => ?_)
    refine W.region ?_
    refine O.ex (Ex.move rfl) rfl ?_
    first | refine O.storeP Try.sizeOf9 rfl rfl (fun w H => ?_) | refine O.storeR Try.sizeOf9 rfl rfl (fun w H => ?_)
    first | refine O.storeP Try.sizeOf4 rfl rfl (fun w H => ?_) | refine O.storeR Try.sizeOf4 rfl rfl (fun w H => ?_)
    refine O.nil ?_
    refine hK5 _ _ _ ?_
    refine W.ret ?_
    try dsimp only [thenQ, blockQ, retQ]
    first | refine ⟨_, ⟨_, _, _, rfl, rfl, loadVar_one Try.isAgg9, _, _, _, rfl, rfl, loadVar_one Try.isAgg4, rfl⟩, ?_⟩ | (refine retD_mark ?_; intro w H; refine ⟨_, ⟨_, _, _, rfl, rfl, loadVar_one Try.isAgg9, _, _, _, rfl, rfl, loadVar_one Try.isAgg4, rfl⟩, ?_⟩) | (refine retD_mark2 ?_; intro w H; refine ⟨_, ⟨_, _, _, rfl, rfl, loadVar_one Try.isAgg9, _, _, _, rfl, rfl, loadVar_one Try.isAgg4, rfl⟩, ?_⟩)
    first
    | (obtain rfl : xs = [] := List.length_eq_zero_iff.1 hφ
       exact ⟨rfl, rgS_open.2 ⟨vv, _, _, hr, Holds.to (by assumption)⟩⟩)
    | (refine ⟨by rw [decide_eq_true (show xs.length ≠ 0 by omega)]; rfl, rgS_open.2 ⟨vv, _, _, hr, Holds.to (by assumption)⟩⟩)
  · skip
    refine W.ret ?_
    try dsimp only [thenQ, blockQ, retQ]
    first | refine ⟨_, ⟨_, _, _, rfl, rfl, loadVar_one Try.isAgg9, _, _, _, rfl, rfl, loadVar_one Try.isAgg4, rfl⟩, ?_⟩ | (refine retD_mark ?_; intro w H; refine ⟨_, ⟨_, _, _, rfl, rfl, loadVar_one Try.isAgg9, _, _, _, rfl, rfl, loadVar_one Try.isAgg4, rfl⟩, ?_⟩) | (refine retD_mark2 ?_; intro w H; refine ⟨_, ⟨_, _, _, rfl, rfl, loadVar_one Try.isAgg9, _, _, _, rfl, rfl, loadVar_one Try.isAgg4, rfl⟩, ?_⟩)
    first
    | (obtain rfl : xs = [] := List.length_eq_zero_iff.1 hφ
       exact ⟨rfl, rgS_open.2 ⟨vv, _, _, hr, Holds.to (by assumption)⟩⟩)
    | (refine ⟨by rw [decide_eq_true (show xs.length ≠ 0 by omega)]; rfl, rgS_open.2 ⟨vv, _, _, hr, Holds.to (by assumption)⟩⟩)
theorem popI_ct {w : World} {s k : Nat} {xs : List Int} {L : List HProp} (H : Holds w (RgI s k xs :: L)) :
    CT Try.prog 29 [.pointer (some ⟨s, 0, none⟩)] w fun u w' => u = .tuple #[.int .i64 (xs.getLastD (0 : Int)), .bool (decide (xs.length ≠ 0))] ∧ Holds w' (RgI s k xs.dropLast :: L) := by
  obtain ⟨vv, at_, f, hr, H⟩ := rgI_open.1 H
  have H := rgOI_open.1 H
  have k0 := hr.k0
  have k1 := hr.k1
  have la := hr.la
  have f0 := hr.f0
  have f1 := hr.f1
  have lx := hr.lx
  refine CT.enter (N := 26) Try.func29 rfl rfl rfl rfl ?_
  refine W.seq (fun K0 hK0 => ?_)
  refine W.region ?_
  refine O.ex (Ex.assign rfl) rfl ?_
  refine O.ex (Ex.assign rfl) rfl ?_
  refine O.nil ?_
  refine hK0 _ _ _ ?_
  refine W.seq (fun K1 hK1 => ?_)
  refine W.seq (fun K2 hK2 => ?_)
  refine W.region ?_
  refine O.ex (Ex.move rfl) rfl ?_
  refine O.ex (by first | exact Ex.nilPtr rfl | exact Ex.nilFunc rfl | exact Ex.nilYield rfl) rfl ?_
  refine O.ex (by first | exact Ex.field0 fld92_2 rfl | exact Ex.field fld92_2 rfl | exact Ex.fieldS fld92_2 rfl) rfl ?_
  refine O.ex (by first | exact Ex.loadP Try.isAgg3 rfl | exact Ex.loadR Try.isAgg3 rfl | exact Ex.loadIn1 Try.isAgg3 rfl (Holds.to (by assumption))) rfl ?_
  refine O.ex (Ex.eqlI rfl rfl) rfl ?_
  refine O.nil ?_
  refine hK2 _ _ _ ?_
  first | refine W.cond_p rfl (fun hz => ?_) (fun hnz => ?_) | refine W.cond_b rfl (fun hz => ?_) (fun hnz => ?_)
  · refine W.seq (fun K3 hK3 => ?_)
    refine W.region ?_
    refine O.ex (Ex.assign rfl) rfl ?_
    refine O.nil ?_
    refine hK3 _ _ _ ?_
    refine W.seq (fun K4 hK4 => ?_)
    refine W.region ?_
    refine O.ex (Ex.move rfl) rfl ?_
    refine O.ex (Ex.assign rfl) rfl ?_
    refine O.ex (Ex.assign rfl) rfl ?_
    refine O.nil ?_
    refine hK4 _ _ _ ?_
    refine W.ret ?_
    try dsimp only [thenQ, blockQ, retQ]
    first | refine ⟨_, ⟨_, _, rfl, rfl, _, _, rfl, rfl, rfl⟩, ?_⟩ | (refine retD_mark ?_; intro w H; refine ⟨_, ⟨_, _, rfl, rfl, _, _, rfl, rfl, rfl⟩, ?_⟩) | (refine retD_mark2 ?_; intro w H; refine ⟨_, ⟨_, _, rfl, rfl, _, _, rfl, rfl, rfl⟩, ?_⟩)
    first
    | (obtain rfl : xs = [] := List.length_eq_zero_iff.1 (by omega)
       exact ⟨rfl, rgI_open.2 ⟨vv, _, _, hr, rgOI_open.2 (Holds.to (by assumption))⟩⟩)
    | (obtain ⟨e1, hr2⟩ := hr.last (0 : Int)
       refine ⟨by rw [e1, decide_eq_true (show (xs ++ [x]).length ≠ 0 by simp)]; simp [oneOf], ?_⟩
       rw [List.dropLast_concat]
       exact rgI_open.2 ⟨vv, _, _, hr2, rgOI_open.2 (Holds.to (by assumption))⟩)
  · refine W.skip ?_
    refine hK1 _ _ _ ?_
    refine W.seq (fun K5 hK5 => ?_)
    refine W.region ?_
    obtain ⟨xs, x, rfl⟩ : ∃ ys x, xs = ys ++ [x] := ⟨xs.dropLast, xs.getLast (by rintro rfl; simp at hnz), (List.dropLast_concat_getLast _).symm⟩
    have en : (((xs ++ [x]).length : Nat) : Int) - 1 = xs.length := by simp
    have lx2 : xs.length < k := by simp at lx; omega
    have hix := Rep.ix hr xs.length (by omega) (by omega)
    refine O.ex (Ex.move rfl) rfl ?_
    refine O.ex (by first | exact Ex.nilPtr rfl | exact Ex.nilFunc rfl | exact Ex.nilYield rfl) rfl ?_
    refine O.ex (by first | exact Ex.field0 fld92_2 rfl | exact Ex.field fld92_2 rfl | exact Ex.fieldS fld92_2 rfl) rfl ?_
    refine O.ex (by first | exact Ex.loadP Try.isAgg3 rfl | exact Ex.loadR Try.isAgg3 rfl | exact Ex.loadIn1 Try.isAgg3 rfl (Holds.to (by assumption))) rfl ?_
    refine O.ex (by first | exact Ex.subI rfl rfl | exact Ex.sub rfl rfl rfl) rfl ?_
    refine O.ex (by first | exact Ex.nilPtr rfl | exact Ex.nilFunc rfl | exact Ex.nilYield rfl) rfl ?_
    refine O.ex (by first | exact Ex.field0 fld92_2 rfl | exact Ex.field fld92_2 rfl | exact Ex.fieldS fld92_2 rfl) rfl ?_
    first | refine O.storeP Try.sizeOf3 rfl rfl (fun w H => ?_) | refine O.storeR Try.sizeOf3 rfl rfl (fun w H => ?_)
    refine O.nil ?_
    refine hK5 _ _ _ ?_
    refine W.seq (fun K6 hK6 => ?_)
    refine W.region ?_
    simp only [en] at H
    refine O.ex (Ex.move rfl) rfl ?_
    refine O.ex (Ex.move rfl) rfl ?_
    refine O.ex (Ex.move rfl) rfl ?_
    refine O.ex (by first | exact Ex.nilPtr rfl | exact Ex.nilFunc rfl | exact Ex.nilYield rfl) rfl ?_
    refine O.ex (by first | exact Ex.field0 fld92_2 rfl | exact Ex.field fld92_2 rfl | exact Ex.fieldS fld92_2 rfl) rfl ?_
    refine O.ex (by first | exact Ex.loadP Try.isAgg3 rfl | exact Ex.loadR Try.isAgg3 rfl | exact Ex.loadIn1 Try.isAgg3 rfl (Holds.to (by assumption))) rfl ?_
    refine O.callF Try.call54 rfl rfl (CT.mono (placeI_ct (k := k) (Holds.to (by assumption)) (by omega) (by omega) (by omega) (by omega) (by omega) (by omega) la) ?_)
    rintro _ w ⟨rfl, H⟩
    refine O.callF Try.call53 rfl rfl (CT.mono (outI_ct (Holds.to (by assumption)) (by omega) (by omega)) ?_)
    rintro _ w ⟨rfl, H⟩
    refine O.ex (Ex.assign rfl) rfl ?_
    refine O.ex (Ex.assign rfl) rfl ?_
    refine O.nil ?_
    refine hK6 _ _ _ ?_
    refine W.ret ?_
    try dsimp only [thenQ, blockQ, retQ]
    first | refine ⟨_, ⟨_, _, rfl, rfl, _, _, rfl, rfl, rfl⟩, ?_⟩ | (refine retD_mark ?_; intro w H; refine ⟨_, ⟨_, _, rfl, rfl, _, _, rfl, rfl, rfl⟩, ?_⟩) | (refine retD_mark2 ?_; intro w H; refine ⟨_, ⟨_, _, rfl, rfl, _, _, rfl, rfl, rfl⟩, ?_⟩)
    first
    | (obtain rfl : xs = [] := List.length_eq_zero_iff.1 (by omega)
       exact ⟨rfl, rgI_open.2 ⟨vv, _, _, hr, rgOI_open.2 (Holds.to (by assumption))⟩⟩)
    | (obtain ⟨e1, hr2⟩ := hr.last (0 : Int)
       refine ⟨by rw [e1, decide_eq_true (show (xs ++ [x]).length ≠ 0 by simp)]; simp [oneOf], ?_⟩
       rw [List.dropLast_concat]
       exact rgI_open.2 ⟨vv, _, _, hr2, rgOI_open.2 (Holds.to (by assumption))⟩)
end Go.Proofs.Ytikdblejkmaloaa
