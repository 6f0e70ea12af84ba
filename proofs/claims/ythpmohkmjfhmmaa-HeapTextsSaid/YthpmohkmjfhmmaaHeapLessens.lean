import Derived.Test.YthpmohkmjfhmmaaRef04
import Derived.Test.YthpmohkmjfhmmaaRrRow
namespace Go.Proofs.Ythpmohkmjfhmmaa
open Go.Rr Go Hp
set_option linter.unusedVariables false
/-- The first i of l, put where they stand. -/
def preS {α : Type} (l : List α) (i : Nat) : List (Option α) := (List.range l.length).map fun j => if j < i then l[j]? else none
theorem preS_len {α : Type} (l : List α) (i : Nat) : (preS l i).length = l.length := by simp [preS]
theorem preS_get {α : Type} [Inhabited α] (l : List α) (i j : Nat) (hj : j < l.length) : sg (preS l i) j = if j < i then some (l.getD j default) else none := by
  unfold preS sg
  rw [List.getD_eq_getElem?_getD, List.getElem?_map, List.getElem?_range hj]
  show (if j < i then l[j]? else none) = _
  split
  · rw [List.getD_eq_getElem?_getD, List.getElem?_eq_getElem hj]; rfl
  · rfl
theorem preS_zero {α : Type} [Inhabited α] (l : List α) : preS l 0 = List.replicate l.length none := by
  apply List.ext_getElem (by simp [preS])
  intro i h1 h2
  simp [preS]
theorem preS_put {α : Type} [Inhabited α] {R : α → α → Prop} [DecidableRel R] (l : List α) (i : Nat) (hi : i < l.length) : putC R (preS l i) (i : Int) (l.getD i default) = 0 ∧ putL R (preS l i) (i : Int) (l.getD i default) = preS l (i + 1) := by
  have hc : putC R (preS l i) (i : Int) (l.getD i default) = 0 := by
    unfold putC
    rw [if_neg (by rw [preS_len]; omega), Int.toNat_natCast, preS_get l i i hi, if_neg (by omega)]
  refine ⟨hc, ?_⟩
  unfold putL
  rw [if_pos hc, Int.toNat_natCast]
  refine Hp.ext _ _ (by simp [preS]) fun j h1 => ?_
  have hj : j < l.length := by simpa [preS] using h1
  have e1 : sg ((preS l i).set i (some (l.getD i default))) j = sg (preS l (i + 1)) j := by
    rw [sg_set _ _ _ _ (by rw [preS_len]; exact hi), preS_get l i j hj, preS_get l (i + 1) j hj]
    by_cases e : j = i
    · subst e; rw [if_pos rfl, if_pos (by omega)]
    · rw [if_neg e]
      by_cases e2 : j < i
      · rw [if_pos e2, if_pos (by omega)]
      · rw [if_neg e2, if_neg (by omega)]
  exact e1
theorem lenS_full {α : Type} [Inhabited α] (l : List (Option α)) (h : ∀ j, j < l.length → (sg l j).isSome = true) : lenS l = l.length := by
  unfold lenS
  rw [List.length_filter_eq_length_iff]
  intro a ha
  obtain ⟨i, hi, rfl⟩ := List.getElem_of_mem ha
  have := h i hi
  unfold sg at this
  rwa [List.getD_eq_getElem?_getD, List.getElem?_eq_getElem hi] at this
set_option maxHeartbeats 2000000 in
theorem heapLessens_ct {w0 : World} {lv : Value} {l : List Int} {th : Int} (hx : SlIn w0 1 (fun s : Int => [.int .i64 s]) lv l) (hl : l.length ≤ 9223372036854775807) (hth : (Lit.int .u8 th).wf = true) :
    CT Try.prog 10 [lv, .int .u8 th] w0 fun u w' => u = .bool true ∧ RowKit.Below w0.heap.size w0 w' := by
  have H := Holds.base_refl w0
  obtain ⟨t0, t1⟩ := bounds_u8 hth
  refine CT.enter (N := 111) Try.func10 rfl rfl rfl rfl ?_
  refine W.seq (fun K0 hK0 => ?_)
  refine W.region ?_
  refine O.ex (Ex.assign rfl) rfl ?_
  refine O.nil ?_
  refine hK0 _ _ _ ?_
  refine W.seq (fun K1 hK1 => ?_)
  refine W.seq (fun K2 hK2 => ?_)
  refine W.region ?_
  refine O.callF Try.call26 rfl rfl (CT.mono (awake04_ct (by assumption)) ?_)
  rintro _ w ⟨rfl, H⟩
  refine O.ex (by first | exact Ex.notD rfl | exact Ex.not rfl) rfl ?_
  refine O.nil ?_
  refine hK2 _ _ _ ?_
  refine W.known_f rfl (by first | rfl | decide | exact decide_eq_false (by omega) | exact decide_eq_false (fun hh => hh hcA) | exact decide_eq_false (fun hh => hh hcB) | exact decide_eq_true rfl | exact decide_eq_true hfst | exact hokC | exact decide_eq_true hpC) ?_
  refine W.skip ?_
  refine hK1 _ _ _ ?_
  refine W.seq (fun K3 hK3 => ?_)
  refine W.seq (fun K4 hK4 => ?_)
  refine W.region ?_
  refine O.ex (Ex.move rfl) rfl ?_
  refine O.ex (by first | exact Ex.lenR Try.runUnderlying22 rfl | exact Ex.lenIn Try.runUnderlying22 rfl | exact Ex.lenL Try.runUnderlying22 rfl | exact Ex.len rfl Try.runUnderlying22 rfl) rfl ?_
  refine O.ex (Ex.lss rfl rfl) rfl ?_
  refine O.ex (Ex.move rfl) rfl ?_
  first | refine O.split_p (t := 23) rfl (fun hsm => ?_) (fun hnsm => ?_) | refine O.split (t := 23) rfl (fun hsm => ?_) (fun hnsm => ?_)
  · refine O.guard_f rfl rfl rfl rfl ?_
    refine O.guard_f rfl rfl rfl rfl ?_
    refine O.guard_f rfl rfl rfl rfl ?_
    refine O.ex (Ex.pick_t rfl rfl) rfl ?_
    refine O.nil ?_
    refine hK4 _ _ _ ?_
    refine W.cond_t rfl ?_
    refine W.seq (fun K5 hK5 => ?_)
    refine W.region ?_
    refine O.ex (Ex.assign rfl) rfl ?_
    refine O.nil ?_
    refine hK5 _ _ _ ?_
    refine W.ret ?_
    try dsimp only [thenQ, blockQ, retQ]
    first | refine ⟨_, ⟨_, _, rfl, rfl, rfl⟩, ?_⟩ | (refine retD_mark ?_; intro w H; refine ⟨_, ⟨_, _, rfl, rfl, rfl⟩, ?_⟩) | (refine retD_mark2 ?_; intro w H; refine ⟨_, ⟨_, _, rfl, rfl, rfl⟩, ?_⟩)
    exact ⟨by first | rfl | exact congrArg Value.bool (by rw [hlenC]; exact decide_eq_true rfl), Holds.base_below (L := []) (Holds.to (by assumption))⟩
  · refine O.guard_t rfl rfl ?_
    refine O.ex (Ex.move rfl) rfl ?_
    refine O.guard_t rfl rfl ?_
    refine O.ex (by first | exact Ex.lenR Try.runUnderlying22 rfl | exact Ex.lenIn Try.runUnderlying22 rfl | exact Ex.lenL Try.runUnderlying22 rfl | exact Ex.len rfl Try.runUnderlying22 rfl) rfl ?_
    refine O.guard_t rfl rfl ?_
    refine O.ex (Ex.gtr rfl rfl) rfl ?_
    refine O.ex (Ex.pick_f rfl rfl) rfl ?_
    refine O.nil ?_
    refine hK4 _ _ _ ?_
    first | refine W.cond_p rfl (fun hbig => ?_) (fun hle => ?_) | refine W.cond_b rfl (fun hbig => ?_) (fun hle => ?_)
    · refine W.seq (fun K6 hK6 => ?_)
      refine W.region ?_
      refine O.ex (Ex.assign rfl) rfl ?_
      refine O.nil ?_
      refine hK6 _ _ _ ?_
      refine W.ret ?_
      try dsimp only [thenQ, blockQ, retQ]
      first | refine ⟨_, ⟨_, _, rfl, rfl, rfl⟩, ?_⟩ | (refine retD_mark ?_; intro w H; refine ⟨_, ⟨_, _, rfl, rfl, rfl⟩, ?_⟩) | (refine retD_mark2 ?_; intro w H; refine ⟨_, ⟨_, _, rfl, rfl, rfl⟩, ?_⟩)
      exact ⟨by first | rfl | exact congrArg Value.bool (by rw [hlenC]; exact decide_eq_true rfl), Holds.base_below (L := []) (Holds.to (by assumption))⟩
    · refine W.skip ?_
      refine hK3 _ _ _ ?_
      refine W.seq (fun K7 hK7 => ?_)
      refine W.region ?_
      refine O.ex (Ex.move rfl) rfl ?_
      refine O.ex (by first | exact Ex.lenR Try.runUnderlying22 rfl | exact Ex.lenIn Try.runUnderlying22 rfl | exact Ex.lenL Try.runUnderlying22 rfl | exact Ex.len rfl Try.runUnderlying22 rfl) rfl ?_
      refine O.callF Try.call27 rfl rfl (CT.mono (newIH_ct (Holds.to (by assumption))) ?_)
      rintro _ w (⟨hx2, -⟩ | ⟨-, h, rfl, H⟩)
      · exact absurd (by omega) hx2
      rw [Int.toNat_natCast, ← preS_zero] at H
      refine O.ex (Ex.move rfl) rfl ?_
      refine O.ex (Ex.extract rfl rfl) rfl ?_
      refine O.ex (Ex.extract rfl rfl) rfl ?_
      refine O.ex (Ex.assign rfl) rfl ?_
      refine O.ex (Ex.assign rfl) rfl ?_
      refine O.nil ?_
      refine hK7 _ _ _ ?_
      refine W.seq (fun K8 hK8 => ?_)
      refine W.seq (fun K9 hK9 => ?_)
      refine W.region ?_
      refine O.ex (Ex.move rfl) rfl ?_
      refine O.ex (Ex.nilEq Try.runUnderlying42 rfl rfl) rfl ?_
      refine O.nil ?_
      refine hK9 _ _ _ ?_
      refine W.known_f rfl (by first | rfl | decide | exact decide_eq_false (by omega) | exact decide_eq_false (fun hh => hh hcA) | exact decide_eq_false (fun hh => hh hcB) | exact decide_eq_true rfl | exact decide_eq_true hfst | exact hokC | exact decide_eq_true hpC) ?_
      refine W.skip ?_
      refine hK8 _ _ _ ?_
      refine W.seq (fun K10 hK10 => ?_)
      refine W.seq (fun K11 hK11 => ?_)
      refine W.region ?_
      refine O.ex (Ex.assign rfl) rfl ?_
      refine O.nil ?_
      refine hK11 _ _ _ ?_
      refine W.block ?_
      refine W.loop (σ := Nat) (fun i => [(0, lv), (1, .int .u8 th), (5, .pointer (some ⟨h, 0, none⟩)), (7, .int .i64 (i : Int))]) (fun i ds w => ds = [] ∧ i ≤ l.length ∧ (∀ j, j < i → -4611686018427387904 ≤ l.getD j default) ∧ Holds w [HqI h (preS l i), base w0]) (fun i => l.length - i) 0 ⟨rfl, rfl, rfl, rfl, trivial⟩ ⟨rfl, by omega, by omega, Holds.to (by assumption)⟩ ?_
      clear H
      rintro i _ w ⟨rfl, hi, hlow, H⟩
      have hi0 : (0 : Int) ≤ (i : Int) := by omega
      refine W.seq (fun K12 hK12 => ?_)
      refine W.seq (fun K13 hK13 => ?_)
      refine W.region ?_
      refine O.ex (Ex.move rfl) rfl ?_
      refine O.ex (Ex.move rfl) rfl ?_
      refine O.ex (by first | exact Ex.lenR Try.runUnderlying22 rfl | exact Ex.lenIn Try.runUnderlying22 rfl | exact Ex.lenL Try.runUnderlying22 rfl | exact Ex.len rfl Try.runUnderlying22 rfl) rfl ?_
      refine O.ex (Ex.lss rfl rfl) rfl ?_
      refine O.nil ?_
      refine hK13 _ _ _ ?_
      first | refine W.cond_p rfl (fun hlt => ?_) (fun hge => ?_) | refine W.cond_b rfl (fun hlt => ?_) (fun hge => ?_)
      · refine W.skip ?_
        refine hK12 _ _ _ ?_
        refine W.seq (fun K14 hK14 => ?_)
        refine W.block ?_
        refine W.seq (fun K15 hK15 => ?_)
        refine W.seq (fun K16 hK16 => ?_)
        refine W.region ?_
        refine O.ex (Ex.move rfl) rfl ?_
        refine O.ex (Ex.move rfl) rfl ?_
        refine O.ex (by first | exact Ex.idxR Try.runUnderlying22 Try.sizeOf3 rfl rfl | exact Ex.idxIn Try.runUnderlying22 Try.sizeOf3 rfl rfl | exact Ex.idxS Try.runUnderlying22 Try.sizeOf3 rfl rfl | exact Ex.idx Try.runUnderlying22 Try.sizeOf3 rfl rfl (by omega) (by omega)) rfl ?_
        refine O.ex (by first | exact Ex.loadP Try.isAgg3 rfl | exact Ex.loadR Try.isAgg3 rfl | exact Ex.loadIn1 Try.isAgg3 rfl (Holds.to (by assumption))) rfl ?_
        refine O.ex (Ex.lss rfl rfl) rfl ?_
        refine O.nil ?_
        refine hK16 _ _ _ ?_
        first | refine W.cond_p rfl (fun hlo => ?_) (fun hhi => ?_) | refine W.cond_b rfl (fun hlo => ?_) (fun hhi => ?_)
        · refine W.seq (fun K17 hK17 => ?_)
          refine W.region ?_
          refine O.ex (Ex.assign rfl) rfl ?_
          refine O.nil ?_
          refine hK17 _ _ _ ?_
          refine W.ret ?_
          try dsimp only [thenQ, blockQ, retQ]
          first | refine ⟨_, ⟨_, _, rfl, rfl, rfl⟩, ?_⟩ | (refine retD_mark ?_; intro w H; refine ⟨_, ⟨_, _, rfl, rfl, rfl⟩, ?_⟩) | (refine retD_mark2 ?_; intro w H; refine ⟨_, ⟨_, _, rfl, rfl, rfl⟩, ?_⟩)
          exact ⟨by first | rfl | exact congrArg Value.bool (by rw [hlenC]; exact decide_eq_true rfl), Holds.base_below (L := []) (Holds.to (by assumption))⟩
        · refine W.skip ?_
          refine hK15 _ _ _ ?_
          refine W.region ?_
          have hp := preS_put (R := RI) l i (by omega)
          refine O.ex (Ex.move rfl) rfl ?_
          refine O.ex (Ex.move rfl) rfl ?_
          refine O.ex (Ex.move rfl) rfl ?_
          refine O.ex (Ex.move rfl) rfl ?_
          refine O.ex (by first | exact Ex.idxR Try.runUnderlying22 Try.sizeOf3 rfl rfl | exact Ex.idxIn Try.runUnderlying22 Try.sizeOf3 rfl rfl | exact Ex.idxS Try.runUnderlying22 Try.sizeOf3 rfl rfl | exact Ex.idx Try.runUnderlying22 Try.sizeOf3 rfl rfl (by omega) (by omega)) rfl ?_
          refine O.ex (by first | exact Ex.loadP Try.isAgg3 rfl | exact Ex.loadR Try.isAgg3 rfl | exact Ex.loadIn1 Try.isAgg3 rfl (Holds.to (by assumption))) rfl ?_
          refine O.callF Try.call29 rfl rfl (CT.mono (putIH_ct (s := preS l i) (Holds.to (by assumption))) ?_)
          rintro _ w ⟨-, H⟩
          rw [show putL RI (preS l i) (i : Int) (l.getD ((i : Nat) : Int).toNat default) = preS l (i + 1) from hp.2] at H
          refine O.nil ?_
          refine hK14 _ _ _ ?_
          refine W.region ?_
          refine O.ex (Ex.move rfl) rfl ?_
          refine O.ex (by first | exact Ex.addI rfl rfl | exact Ex.add rfl rfl rfl) rfl ?_
          refine O.ex (Ex.assign rfl) rfl ?_
          refine O.nil ?_
          refine ⟨i + 1, ⟨rfl, rfl, rfl, rfl, trivial⟩, ⟨rfl, by omega, fun j hj => ?_, Holds.to (by assumption)⟩, by omega⟩
          by_cases e : j = i
          · subst e; exact Int.not_lt.1 hhi
          · exact hlow j (by omega)
      · refine W.exit ?_
        refine hK10 _ _ _ ?_
        refine W.seq (fun K18 hK18 => ?_)
        refine W.region ?_
        obtain rfl : i = l.length := by omega
        obtain ⟨k, hk⟩ : ∃ k : Nat, th % (l.length : Int) = k := ⟨(th % (l.length : Int)).toNat, by have := Int.emod_nonneg th (show (l.length : Int) ≠ 0 by omega); omega⟩
        have hkl : k < l.length := by have := Int.emod_lt_of_pos th (show (0 : Int) < l.length by omega); omega
        have hk0 : (0 : Int) ≤ (k : Int) := by omega
        obtain ⟨s, hs⟩ : ∃ s, s = preS l l.length := ⟨_, rfl⟩
        rw [← hs] at H
        have hsl : s.length = l.length := by rw [hs, preS_len]
        have hsg : ∀ j, j < l.length → sg s j = some (l.getD j default) := fun j hj => by rw [hs, preS_get l _ j hj, if_pos hj]
        have hcA : putC RI s (k : Int) (l.getD ((k : Nat) : Int).toNat default) = 5 := by
          unfold putC
          rw [if_neg (by omega), Int.toNat_natCast, hsg k hkl]
          exact if_neg (soI.irr _)
        have hsA : putL RI s (k : Int) (l.getD ((k : Nat) : Int).toNat default) = s := by unfold putL; rw [if_neg (by rw [hcA]; decide)]
        have hcB : putC RI s (k : Int) (-4611686018427387905) = 0 := by
          unfold putC
          rw [if_neg (by omega), Int.toNat_natCast, hsg k hkl]
          exact if_pos (by have := hlow k hkl; show (-4611686018427387905 : Int) < _; omega)
        have hsB : putL RI s (k : Int) (-4611686018427387905) = s.set k (some (-4611686018427387905)) := by unfold putL; rw [if_pos hcB, Int.toNat_natCast]
        obtain ⟨s2, hs2⟩ : ∃ s2, s2 = s.set k (some (-4611686018427387905)) := ⟨_, rfl⟩
        have hs2l : s2.length = l.length := by rw [hs2, List.length_set, hsl]
        have hsg2 : ∀ j, j < l.length → sg s2 j = if j = k then some (-4611686018427387905) else some (l.getD j default) := fun j hj => by rw [hs2, sg_set _ _ _ _ (by omega), hsg j hj]
        have hpk2 : Hp.pg s2 k = -4611686018427387905 := by unfold Hp.pg; rw [hsg2 k hkl, if_pos rfl]; rfl
        have hB : bs RI s2 = some k := bst_of soI ⟨by omega, by rw [hsg2 k hkl, if_pos rfl, hpk2], fun j hj q hq => by
          rw [hs2l] at hj
          rw [hsg2 j hj] at hq
          rw [hpk2]
          by_cases e : j = k
          · rw [if_pos e] at hq; cases hq; exact .inr ⟨rfl, by omega⟩
          · rw [if_neg e] at hq
            have h9 := hlow j hj
            have h8 : l.getD j default = q := Option.some.inj hq
            exact .inl (by show (-4611686018427387905 : Int) < q; omega)⟩
        have hokC : pkO RI s2 = true := by unfold pkO; rw [hB]; rfl
        have hnC : pkN RI s2 = k := by unfold pkN; rw [hB]; rfl
        have hpC : pkP RI s2 = -4611686018427387905 := by unfold pkP; rw [hB]; exact hpk2
        have hfst : ((pkN RI s2 : Nat) : Int) = (k : Int) := by rw [hnC]
        have hlenC : lenS s2 = l.length := by
          rw [← hs2l]
          exact lenS_full s2 fun j hj => by rw [hsg2 j (by omega)]; split <;> rfl
        refine O.ex (Ex.move rfl) rfl ?_
        refine O.ex (by first | exact Ex.convToI Try.runUnderlying5 Try.runUnderlying3 rfl | exact Ex.convW Try.runUnderlying5 Try.runUnderlying3 rfl) rfl ?_
        refine O.ex (Ex.move rfl) rfl ?_
        refine O.ex (by first | exact Ex.lenR Try.runUnderlying22 rfl | exact Ex.lenIn Try.runUnderlying22 rfl | exact Ex.lenL Try.runUnderlying22 rfl | exact Ex.len rfl Try.runUnderlying22 rfl) rfl ?_
        refine O.ex (by first | exact Ex.remI rfl rfl | exact Ex.rem rfl rfl (by omega) rfl) rfl ?_
        rw [hk]
        refine O.ex (Ex.assign rfl) rfl ?_
        refine O.nil ?_
        refine hK18 _ _ _ ?_
        refine W.seq (fun K19 hK19 => ?_)
        refine W.region ?_
        refine O.ex (Ex.move rfl) rfl ?_
        refine O.callF Try.call36 rfl rfl (CT.mono (peekIH_ct (Holds.to (by assumption))) ?_)
        rintro _ w ⟨rfl, H⟩
        refine O.ex (Ex.move rfl) rfl ?_
        refine O.ex (Ex.extract rfl rfl) rfl ?_
        refine O.ex (Ex.extract rfl rfl) rfl ?_
        refine O.ex (Ex.extract rfl rfl) rfl ?_
        refine O.ex (Ex.assign rfl) rfl ?_
        refine O.ex (Ex.assign rfl) rfl ?_
        refine O.ex (Ex.assign rfl) rfl ?_
        refine O.nil ?_
        refine hK19 _ _ _ ?_
        refine W.seq (fun K20 hK20 => ?_)
        refine W.seq (fun K21 hK21 => ?_)
        refine W.region ?_
        refine O.ex (Ex.move rfl) rfl ?_
        refine O.ex (Ex.move rfl) rfl ?_
        refine O.ex (Ex.move rfl) rfl ?_
        refine O.ex (Ex.move rfl) rfl ?_
        refine O.ex (by first | exact Ex.idxR Try.runUnderlying22 Try.sizeOf3 rfl rfl | exact Ex.idxIn Try.runUnderlying22 Try.sizeOf3 rfl rfl | exact Ex.idxS Try.runUnderlying22 Try.sizeOf3 rfl rfl | exact Ex.idx Try.runUnderlying22 Try.sizeOf3 rfl rfl (by omega) (by omega)) rfl ?_
        refine O.ex (by first | exact Ex.loadP Try.isAgg3 rfl | exact Ex.loadR Try.isAgg3 rfl | exact Ex.loadIn1 Try.isAgg3 rfl (Holds.to (by assumption))) rfl ?_
        refine O.callF Try.call29 rfl rfl (CT.mono (putIH_ct (Holds.to (by assumption))) ?_)
        rintro _ w ⟨rfl, H⟩
        rw [hsA] at H
        refine O.ex (Ex.neqI rfl rfl) rfl ?_
        refine O.nil ?_
        refine hK21 _ _ _ ?_
        refine W.known_f rfl (by first | rfl | decide | exact decide_eq_false (by omega) | exact decide_eq_false (fun hh => hh hcA) | exact decide_eq_false (fun hh => hh hcB) | exact decide_eq_true rfl | exact decide_eq_true hfst | exact hokC | exact decide_eq_true hpC) ?_
        refine W.skip ?_
        refine hK20 _ _ _ ?_
        refine W.seq (fun K22 hK22 => ?_)
        refine W.region ?_
        refine O.ex (Ex.move rfl) rfl ?_
        refine O.callF Try.call36 rfl rfl (CT.mono (peekIH_ct (Holds.to (by assumption))) ?_)
        rintro _ w ⟨rfl, H⟩
        refine O.ex (Ex.move rfl) rfl ?_
        refine O.ex (Ex.extract rfl rfl) rfl ?_
        refine O.ex (Ex.extract rfl rfl) rfl ?_
        refine O.ex (Ex.extract rfl rfl) rfl ?_
        refine O.ex (Ex.assign rfl) rfl ?_
        refine O.ex (Ex.assign rfl) rfl ?_
        refine O.ex (Ex.assign rfl) rfl ?_
        refine O.nil ?_
        refine hK22 _ _ _ ?_
        refine W.seq (fun K23 hK23 => ?_)
        refine W.seq (fun K24 hK24 => ?_)
        refine W.region ?_
        refine O.ex (Ex.move rfl) rfl ?_
        refine O.ex (Ex.move rfl) rfl ?_
        refine O.callF Try.call29 rfl rfl (CT.mono (putIH_ct (Holds.to (by assumption))) ?_)
        rintro _ w ⟨rfl, H⟩
        rw [hsB, ← hs2] at H
        refine O.ex (Ex.neqI rfl rfl) rfl ?_
        refine O.nil ?_
        refine hK24 _ _ _ ?_
        refine W.known_f rfl (by first | rfl | decide | exact decide_eq_false (by omega) | exact decide_eq_false (fun hh => hh hcA) | exact decide_eq_false (fun hh => hh hcB) | exact decide_eq_true rfl | exact decide_eq_true hfst | exact hokC | exact decide_eq_true hpC) ?_
        refine W.skip ?_
        refine hK23 _ _ _ ?_
        refine W.seq (fun K25 hK25 => ?_)
        refine W.region ?_
        refine O.ex (Ex.move rfl) rfl ?_
        skip
        refine O.callF Try.call36 rfl rfl (CT.mono (peekIH_ct (Holds.to (by assumption))) ?_)
        rintro _ w ⟨rfl, H⟩
        refine O.ex (Ex.move rfl) rfl ?_
        refine O.ex (Ex.extract rfl rfl) rfl ?_
        refine O.ex (Ex.extract rfl rfl) rfl ?_
        refine O.ex (Ex.extract rfl rfl) rfl ?_
        refine O.ex (Ex.assign rfl) rfl ?_
        refine O.ex (Ex.assign rfl) rfl ?_
        refine O.ex (Ex.assign rfl) rfl ?_
        refine O.nil ?_
        refine hK25 _ _ _ ?_
        refine W.seq (fun K26 hK26 => ?_)
        refine W.region ?_
        refine O.ex (Ex.move rfl) rfl ?_
        refine O.ex (Ex.move rfl) rfl ?_
        refine O.ex (Ex.eqlI rfl rfl) rfl ?_
        refine O.ex (Ex.move rfl) rfl ?_
        refine O.known (t := 92) (c := true) rfl (by first | rfl | decide | exact decide_eq_false (by omega) | exact decide_eq_false (fun hh => hh hcA) | exact decide_eq_false (fun hh => hh hcB) | exact decide_eq_true rfl | exact decide_eq_true hfst | exact hokC | exact decide_eq_true hpC) ?_
        refine O.guard_t rfl rfl ?_
        refine O.ex (Ex.move rfl) rfl ?_
        refine O.ex (Ex.pick_t rfl rfl) rfl ?_
        refine O.ex (Ex.move rfl) rfl ?_
        refine O.known (t := 95) (c := true) rfl (by first | rfl | decide | exact decide_eq_false (by omega) | exact decide_eq_false (fun hh => hh hcA) | exact decide_eq_false (fun hh => hh hcB) | exact decide_eq_true rfl | exact decide_eq_true hfst | exact hokC | exact decide_eq_true hpC) ?_
        refine O.guard_t rfl rfl ?_
        refine O.ex (Ex.move rfl) rfl ?_
        refine O.guard_t rfl rfl ?_
        refine O.ex (Ex.move rfl) rfl ?_
        refine O.guard_t rfl rfl ?_
        refine O.ex (Ex.eqlI rfl rfl) rfl ?_
        refine O.ex (Ex.pick_t rfl rfl) rfl ?_
        refine O.ex (Ex.move rfl) rfl ?_
        refine O.known (t := 100) (c := true) rfl (by first | rfl | decide | exact decide_eq_false (by omega) | exact decide_eq_false (fun hh => hh hcA) | exact decide_eq_false (fun hh => hh hcB) | exact decide_eq_true rfl | exact decide_eq_true hfst | exact hokC | exact decide_eq_true hpC) ?_
        refine O.guard_t rfl rfl ?_
        refine O.ex (Ex.move rfl) rfl ?_
        refine O.guard_t rfl rfl ?_
        refine O.ex (Ex.eqlI rfl rfl) rfl ?_
        refine O.ex (Ex.pick_t rfl rfl) rfl ?_
        refine O.ex (Ex.move rfl) rfl ?_
        refine O.known (t := 104) (c := true) rfl (by first | rfl | decide | exact decide_eq_false (by omega) | exact decide_eq_false (fun hh => hh hcA) | exact decide_eq_false (fun hh => hh hcB) | exact decide_eq_true rfl | exact decide_eq_true hfst | exact hokC | exact decide_eq_true hpC) ?_
        refine O.guard_t rfl rfl ?_
        refine O.ex (Ex.move rfl) rfl ?_
        refine O.guard_t rfl rfl ?_
        refine O.callF Try.call37 rfl rfl (CT.mono (lenIH_ct (Holds.to (by assumption))) ?_)
        rintro _ w ⟨rfl, H⟩
        refine O.guard_t rfl rfl ?_
        refine O.ex (Ex.move rfl) rfl ?_
        refine O.guard_t rfl rfl ?_
        refine O.ex (by first | exact Ex.lenR Try.runUnderlying22 rfl | exact Ex.lenIn Try.runUnderlying22 rfl | exact Ex.lenL Try.runUnderlying22 rfl | exact Ex.len rfl Try.runUnderlying22 rfl) rfl ?_
        refine O.guard_t rfl rfl ?_
        refine O.ex (Ex.eqlI rfl rfl) rfl ?_
        refine O.ex (Ex.pick_t rfl rfl) rfl ?_
        refine O.ex (Ex.assign rfl) rfl ?_
        refine O.nil ?_
        refine hK26 _ _ _ ?_
        refine W.ret ?_
        try dsimp only [thenQ, blockQ, retQ]
        first | refine ⟨_, ⟨_, _, rfl, rfl, rfl⟩, ?_⟩ | (refine retD_mark ?_; intro w H; refine ⟨_, ⟨_, _, rfl, rfl, rfl⟩, ?_⟩) | (refine retD_mark2 ?_; intro w H; refine ⟨_, ⟨_, _, rfl, rfl, rfl⟩, ?_⟩)
        exact ⟨by first | rfl | exact congrArg Value.bool (by rw [hlenC]; exact decide_eq_true rfl), Holds.base_below (L := []) (Holds.to (by assumption))⟩
theorem heapLessens_row {w0 : World} {lv : Value} {l : List Int} {th : Int} (hx : SlIn w0 1 (fun s : Int => [.int .i64 s]) lv l) (g1 : ∀ x ∈ l, (Lit.int .i64 x).wf = true) (hl0 : l.length ≤ maxLen) (hth : (Lit.int .u8 th).wf = true) :
    CT Try.prog 10 [lv, .int .u8 th] w0 fun u w' => u = .bool true ∧ RowKit.Below w0.heap.size w0 w' :=
  heapLessens_ct hx (by unfold maxLen at hl0; omega) hth
end Go.Proofs.Ythpmohkmjfhmmaa
