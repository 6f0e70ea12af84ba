import Derived.Test.YthpmohkmjfhmmaaHeap6
namespace Go.Proofs.Ythpmohkmjfhmmaa
open Go.Rr Go Hp
set_option linter.unusedVariables false
structure RR (s : List (Option Int)) (I : List Bool) (P : List Int) : Prop where
  li : I.length = s.length
  lp : P.length = s.length
  is : ∀ x, x < s.length → I.getD x default = (sg s x).isSome
  at_ : ∀ x p, sg s x = some p → P.getD x default = p
theorem RR.new (n : Nat) : RR (List.replicate n none) (List.replicate n false) (List.replicate n 0) := by
  refine ⟨by simp, by simp, fun x hx => ?_, fun x p h => ?_⟩
  · simp only [List.length_replicate] at hx
    simp [sg, List.getD_eq_getElem?_getD, hx]
  · exfalso
    have hx := sg_lt h
    simp only [List.length_replicate] at hx
    simp [sg, List.getD_eq_getElem?_getD, hx] at h
theorem RR.pg {s : List (Option Int)} {I : List Bool} {P : List Int} (h : RR s I P) {x : Nat} (hx : x < s.length) (hi : I.getD x default = true) : sg s x = some (P.getD x default) := by
  rw [h.is x hx] at hi
  obtain ⟨p, hp⟩ := Option.isSome_iff_exists.1 hi
  rw [hp, h.at_ x p hp]
theorem RR.nn {s : List (Option Int)} {I : List Bool} {P : List Int} (h : RR s I P) {x : Nat} (hx : x < s.length) (hi : ¬ I.getD x default = true) : sg s x = none := by
  rw [h.is x hx] at hi
  cases e : sg s x with
  | none => rfl
  | some p => rw [e] at hi; simp at hi
theorem RR.put {s : List (Option Int)} {I : List Bool} {P : List Int} (h : RR s I P) {x : Nat} (hx : x < s.length) (p : Int) : RR (s.set x (some p)) (I.set x true) (P.set x p) := by
  refine ⟨by simp [h.li], by simp [h.lp], fun y hy => ?_, fun y q hq => ?_⟩
  · rw [List.length_set] at hy
    rw [gs _ _ _ _ (by rw [h.li]; exact hx), sg_set _ _ _ _ hx]
    split
    · rfl
    · exact h.is y hy
  · rw [sg_set _ _ _ _ hx] at hq
    rw [gs _ _ _ _ (by rw [h.lp]; exact hx)]
    split at hq
    · rename_i e; rw [if_pos e]; exact Option.some.inj hq
    · rename_i e; rw [if_neg e]; exact h.at_ y q hq
theorem RR.out {s : List (Option Int)} {I : List Bool} {P : List Int} (h : RR s I P) {x : Nat} (hx : x < s.length) : RR (s.set x none) (I.set x false) P := by
  refine ⟨by simp [h.li], by simp [h.lp], fun y hy => ?_, fun y q hq => ?_⟩
  · rw [List.length_set] at hy
    rw [gs _ _ _ _ (by rw [h.li]; exact hx), sg_set _ _ _ _ hx]
    split
    · rfl
    · exact h.is y hy
  · rw [sg_set _ _ _ _ hx] at hq
    split at hq
    · cases hq
    · exact h.at_ y q hq
def RfO (r : Nat) (iv qv : Value) (I : List Bool) (P : List Int) : HProp := star [pt r (.cells #[iv, qv] 52 (0, 0)), arr 4 Value.bool iv I, arr 3 (Value.int .i64) qv P]
theorem rfO_open {w : World} {r : Nat} {iv qv : Value} {I : List Bool} {P : List Int} {L : List HProp} : Holds w (RfO r iv qv I P :: L) ↔ Holds w (pt r (.cells #[iv, qv] 52 (0, 0)) :: arr 4 Value.bool iv I :: arr 3 (Value.int .i64) qv P :: L) := by
  unfold RfO
  simp only [Holds.star, List.cons_append, List.nil_append]
def Rf (r : Nat) (s : List (Option Int)) : HProp := hex fun iv => hex fun qv => hex fun I => hex fun P => star [hp (RR s I P), RfO r iv qv I P]
theorem rf_open {w : World} {r : Nat} {s : List (Option Int)} {L : List HProp} : Holds w (Rf r s :: L) ↔ ∃ iv qv I P, RR s I P ∧ Holds w (RfO r iv qv I P :: L) := by
  unfold Rf
  simp only [Holds.hex, Holds.star, List.cons_append, List.nil_append, Holds.hp]
theorem rfNew_ct {w : World} {n : Int} {L : List HProp} (h0 : 0 ≤ n) (h1 : n ≤ 64) (H : Holds w L) :
    CT Try.prog 28 [.int .i64 n] w fun u w' => ∃ r, u = .pointer (some ⟨r, 0, none⟩) ∧ Holds w' (Rf r (List.replicate n.toNat none) :: L) := by
  refine CT.enter (N := 9) Try.func28 rfl rfl rfl rfl ?_
  refine W.seq (fun K0 hK0 => ?_)
  refine W.region ?_
  refine O.ex (Ex.assign rfl) rfl ?_
  refine O.nil ?_
  refine hK0 _ _ _ ?_
  refine W.seq (fun K1 hK1 => ?_)
  refine W.drawTo _ (.take 0 (.take 2 (.two 1 3 (.one 3 (.take 4 (.one 5 (.take 6 .nil)))) (.one 1 (.take 4 (.one 5 (.take 6 .nil))))))) (mixed) (fun _ _ _ _ h => h) (by assumption) (PP.refl _) (by decide +kernel) (fun w H => ?_)
  refine OQ.ex rfl (fun w H => (Ex.move rfl)) rfl ?_
  refine OQ.ex rfl (fun w H => (Ex.move rfl)) rfl ?_
  refine OQ.two rfl rfl ?_ ?_
  · refine O.makeR (false : Bool) (e := Value.bool) (bt := 1) Try.runUnderlying50 Try.sizeOf4 Try.zeroValue4 Try.typeInfo4 rfl rfl rfl (fun s4 w hs4 H => ?_)
    refine O.thenNil ⟨(by first | exact Holds.to (by assumption) | assumption), ?_⟩
    refine OQ.step rfl ?_
    refine O.makeR (0 : Int) (e := Value.int .i64) (bt := 8) Try.runUnderlying22 Try.sizeOf3 Try.zeroValue3 Try.typeInfo3 rfl rfl rfl (fun s6 w hs6 H => ?_)
    refine O.thenNil ⟨(by first | exact Holds.to (by assumption) | assumption), ?_⟩
    refine OQ.ex rfl (fun w H => (Ex.build rfl (bld52_0_1 _ _ (by first | rfl | assumption) (by first | rfl | assumption)))) rfl ?_
    refine OQ.step rfl ?_
    refine O.boxP rfl (fun b8 w H => ?_)
    refine O.thenNil ⟨(by first | exact Holds.to (by assumption) | assumption), ?_⟩
    refine OQ.ex rfl (fun w H => (Ex.assign rfl)) rfl ?_
    refine OQ.done ?_
    refine hK1 _ _ _ ?_
    refine W.ret ?_
    try dsimp only [thenQ, blockQ, retQ]
    first | refine ⟨_, ⟨_, _, rfl, rfl, rfl⟩, ?_⟩ | (refine retD_mark ?_; intro w H; refine ⟨_, ⟨_, _, rfl, rfl, rfl⟩, ?_⟩) | (refine retD_mark2 ?_; intro w H; refine ⟨_, ⟨_, _, rfl, rfl, rfl⟩, ?_⟩)
    exact ⟨_, rfl, rf_open.2 ⟨_, _, _, _, RR.new n.toNat, rfO_open.2 (Holds.to (by assumption))⟩⟩
  · refine O.makeR (0 : Int) (e := Value.int .i64) (bt := 8) Try.runUnderlying22 Try.sizeOf3 Try.zeroValue3 Try.typeInfo3 rfl rfl rfl (fun s6 w hs6 H => ?_)
    refine O.thenNil ⟨(by first | exact Holds.to (by assumption) | assumption), ?_⟩
    refine OQ.step rfl ?_
    refine O.makeR (false : Bool) (e := Value.bool) (bt := 1) Try.runUnderlying50 Try.sizeOf4 Try.zeroValue4 Try.typeInfo4 rfl rfl rfl (fun s4 w hs4 H => ?_)
    refine O.thenNil ⟨(by first | exact Holds.to (by assumption) | assumption), ?_⟩
    refine OQ.ex rfl (fun w H => (Ex.build rfl (bld52_0_1 _ _ (by first | rfl | assumption) (by first | rfl | assumption)))) rfl ?_
    refine OQ.step rfl ?_
    refine O.boxP rfl (fun b8 w H => ?_)
    refine O.thenNil ⟨(by first | exact Holds.to (by assumption) | assumption), ?_⟩
    refine OQ.ex rfl (fun w H => (Ex.assign rfl)) rfl ?_
    refine OQ.done ?_
    refine hK1 _ _ _ ?_
    refine W.ret ?_
    try dsimp only [thenQ, blockQ, retQ]
    first | refine ⟨_, ⟨_, _, rfl, rfl, rfl⟩, ?_⟩ | (refine retD_mark ?_; intro w H; refine ⟨_, ⟨_, _, rfl, rfl, rfl⟩, ?_⟩) | (refine retD_mark2 ?_; intro w H; refine ⟨_, ⟨_, _, rfl, rfl, rfl⟩, ?_⟩)
    exact ⟨_, rfl, rf_open.2 ⟨_, _, _, _, RR.new n.toNat, rfO_open.2 (Holds.to (by assumption))⟩⟩
theorem rfAt_ct {w : World} {r : Nat} {s : List (Option Int)} {x : Int} {L : List HProp} (H : Holds w (Rf r s :: L)) :
    CT Try.prog 41 [.pointer (some ⟨r, 0, none⟩), .int .i64 x] w fun u w' => u = .tuple #[.int .i64 ((atS s x).getD 0), .bool (atS s x).isSome] ∧ Holds w' (Rf r s :: L) := by
  obtain ⟨iv, qv, I, P, hr, H⟩ := rf_open.1 H
  have H := rfO_open.1 H
  have li := hr.li
  have lp := hr.lp
  refine CT.enter (N := 34) Try.func41 rfl rfl rfl rfl ?_
  refine W.seq (fun K0 hK0 => ?_)
  refine W.region ?_
  refine O.ex (Ex.assign rfl) rfl ?_
  refine O.ex (Ex.assign rfl) rfl ?_
  refine O.nil ?_
  refine hK0 _ _ _ ?_
  refine W.seq (fun K1 hK1 => ?_)
  refine W.seq (fun K2 hK2 => ?_)
  refine W.region ?_
  refine O.ex (Ex.move rfl) rfl ?_
  refine O.ex (Ex.lss rfl rfl) rfl ?_
  refine O.ex (Ex.move rfl) rfl ?_
  first | refine O.split_p (t := 8) rfl (fun hneg => ?_) (fun hpos => ?_) | refine O.split (t := 8) rfl (fun hneg => ?_) (fun hpos => ?_)
  · refine O.guard_f rfl rfl rfl rfl ?_
    refine O.guard_f rfl rfl rfl rfl ?_
    refine O.guard_f rfl rfl rfl rfl ?_
    refine O.guard_f rfl rfl rfl rfl ?_
    refine O.guard_f rfl rfl rfl rfl ?_
    refine O.guard_f rfl rfl rfl rfl ?_
    refine O.guard_f rfl rfl rfl rfl ?_
    refine O.ex (Ex.pick_t rfl rfl) rfl ?_
    refine O.ex (Ex.move rfl) rfl ?_
    refine O.guard_f rfl rfl rfl rfl ?_
    refine O.guard_f rfl rfl rfl rfl ?_
    refine O.guard_f rfl rfl rfl rfl ?_
    refine O.guard_f rfl rfl rfl rfl ?_
    refine O.guard_f rfl rfl rfl rfl ?_
    refine O.guard_f rfl rfl rfl rfl ?_
    refine O.guard_f rfl rfl rfl rfl ?_
    refine O.guard_f rfl rfl rfl rfl ?_
    refine O.ex (Ex.pick_t rfl rfl) rfl ?_
    refine O.nil ?_
    refine hK2 _ _ _ ?_
    refine W.cond_t rfl ?_
    refine W.seq (fun K3 hK3 => ?_)
    refine W.region ?_
    refine O.ex (Ex.assign rfl) rfl ?_
    refine O.ex (Ex.assign rfl) rfl ?_
    refine O.nil ?_
    refine hK3 _ _ _ ?_
    refine W.ret ?_
    try dsimp only [thenQ, blockQ, retQ]
    first | refine ⟨_, ⟨_, _, rfl, rfl, _, _, rfl, rfl, rfl⟩, ?_⟩ | (refine retD_mark ?_; intro w H; refine ⟨_, ⟨_, _, rfl, rfl, _, _, rfl, rfl, rfl⟩, ?_⟩) | (refine retD_mark2 ?_; intro w H; refine ⟨_, ⟨_, _, rfl, rfl, _, _, rfl, rfl, rfl⟩, ?_⟩)
    refine ⟨?_, rf_open.2 ⟨_, _, _, _, hr, rfO_open.2 (Holds.to (by assumption))⟩⟩
    first
    | (have e : atS s x = none := by unfold atS; rw [if_pos (by omega)]
       rw [e]; rfl)
    | (obtain ⟨k, rfl⟩ : ∃ k : Nat, x = k := ⟨x.toNat, by omega⟩
       have hk : k < s.length := by omega
       first
       | (have e : atS s (k : Int) = none := by unfold atS; rw [if_neg (by omega)]; exact hr.nn hk (by simpa using hno)
          rw [e]; rfl)
       | (have e : atS s (k : Int) = some (P.getD k default) := by unfold atS; rw [if_neg (by omega)]; exact hr.pg hk (by simpa using hyes)
          rw [e]; rfl))
  · refine O.guard_t rfl rfl ?_
    refine O.ex (Ex.move rfl) rfl ?_
    refine O.guard_t rfl rfl ?_
    refine O.ex (Ex.move rfl) rfl ?_
    refine O.guard_t rfl rfl ?_
    refine O.ex (by first | exact Ex.nilPtr rfl | exact Ex.nilFunc rfl | exact Ex.nilYield rfl) rfl ?_
    refine O.guard_t rfl rfl ?_
    refine O.ex (by first | exact Ex.field0 fld52_0 rfl | exact Ex.field fld52_0 rfl | exact Ex.fieldS fld52_0 rfl) rfl ?_
    refine O.guard_t rfl rfl ?_
    refine O.ex (by first | exact Ex.loadP Try.isAgg50 rfl | exact Ex.loadR Try.isAgg50 rfl | exact Ex.loadIn1 Try.isAgg50 rfl (Holds.to (by assumption))) rfl ?_
    refine O.guard_t rfl rfl ?_
    refine O.ex (by first | exact Ex.lenR Try.runUnderlying50 rfl | exact Ex.lenIn Try.runUnderlying50 rfl | exact Ex.lenL Try.runUnderlying50 rfl | exact Ex.len rfl Try.runUnderlying50 rfl) rfl ?_
    refine O.guard_t rfl rfl ?_
    refine O.ex (Ex.geq rfl rfl) rfl ?_
    refine O.ex (Ex.pick_f rfl rfl) rfl ?_
    refine O.ex (Ex.move rfl) rfl ?_
    first | refine O.split_p (t := 17) rfl (fun hge => ?_) (fun hlt => ?_) | refine O.split (t := 17) rfl (fun hge => ?_) (fun hlt => ?_)
    · refine O.guard_f rfl rfl rfl rfl ?_
      refine O.guard_f rfl rfl rfl rfl ?_
      refine O.guard_f rfl rfl rfl rfl ?_
      refine O.guard_f rfl rfl rfl rfl ?_
      refine O.guard_f rfl rfl rfl rfl ?_
      refine O.guard_f rfl rfl rfl rfl ?_
      refine O.guard_f rfl rfl rfl rfl ?_
      refine O.guard_f rfl rfl rfl rfl ?_
      refine O.ex (Ex.pick_t rfl rfl) rfl ?_
      refine O.nil ?_
      refine hK2 _ _ _ ?_
      refine W.cond_t rfl ?_
      refine W.seq (fun K4 hK4 => ?_)
      refine W.region ?_
      refine O.ex (Ex.assign rfl) rfl ?_
      refine O.ex (Ex.assign rfl) rfl ?_
      refine O.nil ?_
      refine hK4 _ _ _ ?_
      refine W.ret ?_
      try dsimp only [thenQ, blockQ, retQ]
      first | refine ⟨_, ⟨_, _, rfl, rfl, _, _, rfl, rfl, rfl⟩, ?_⟩ | (refine retD_mark ?_; intro w H; refine ⟨_, ⟨_, _, rfl, rfl, _, _, rfl, rfl, rfl⟩, ?_⟩) | (refine retD_mark2 ?_; intro w H; refine ⟨_, ⟨_, _, rfl, rfl, _, _, rfl, rfl, rfl⟩, ?_⟩)
      refine ⟨?_, rf_open.2 ⟨_, _, _, _, hr, rfO_open.2 (Holds.to (by assumption))⟩⟩
      first
      | (have e : atS s x = none := by unfold atS; rw [if_pos (by omega)]
         rw [e]; rfl)
      | (obtain ⟨k, rfl⟩ : ∃ k : Nat, x = k := ⟨x.toNat, by omega⟩
         have hk : k < s.length := by omega
         first
         | (have e : atS s (k : Int) = none := by unfold atS; rw [if_neg (by omega)]; exact hr.nn hk (by simpa using hno)
            rw [e]; rfl)
         | (have e : atS s (k : Int) = some (P.getD k default) := by unfold atS; rw [if_neg (by omega)]; exact hr.pg hk (by simpa using hyes)
            rw [e]; rfl))
    · refine O.guard_t rfl rfl ?_
      refine O.ex (Ex.move rfl) rfl ?_
      refine O.guard_t rfl rfl ?_
      refine O.ex (by first | exact Ex.nilPtr rfl | exact Ex.nilFunc rfl | exact Ex.nilYield rfl) rfl ?_
      refine O.guard_t rfl rfl ?_
      refine O.ex (by first | exact Ex.field0 fld52_0 rfl | exact Ex.field fld52_0 rfl | exact Ex.fieldS fld52_0 rfl) rfl ?_
      refine O.guard_t rfl rfl ?_
      refine O.ex (by first | exact Ex.loadP Try.isAgg50 rfl | exact Ex.loadR Try.isAgg50 rfl | exact Ex.loadIn1 Try.isAgg50 rfl (Holds.to (by assumption))) rfl ?_
      refine O.guard_t rfl rfl ?_
      refine O.ex (Ex.move rfl) rfl ?_
      refine O.guard_t rfl rfl ?_
      refine O.ex (by first | exact Ex.idxR Try.runUnderlying50 Try.sizeOf4 rfl rfl | exact Ex.idxIn Try.runUnderlying50 Try.sizeOf4 rfl rfl | exact Ex.idxS Try.runUnderlying50 Try.sizeOf4 rfl rfl | exact Ex.idx Try.runUnderlying50 Try.sizeOf4 rfl rfl (by omega) (by omega)) rfl ?_
      refine O.guard_t rfl rfl ?_
      refine O.ex (by first | exact Ex.loadP Try.isAgg4 rfl | exact Ex.loadR Try.isAgg4 rfl | exact Ex.loadIn1 Try.isAgg4 rfl (Holds.to (by assumption))) rfl ?_
      refine O.guard_t rfl rfl ?_
      refine O.ex (by first | exact Ex.notD rfl | exact Ex.not rfl) rfl ?_
      refine O.ex (Ex.pick_f rfl rfl) rfl ?_
      refine O.nil ?_
      refine hK2 _ _ _ ?_
      first | refine W.cond_p rfl (fun hno => ?_) (fun hyes => ?_) | refine W.cond_b rfl (fun hno => ?_) (fun hyes => ?_)
      · refine W.seq (fun K5 hK5 => ?_)
        refine W.region ?_
        refine O.ex (Ex.assign rfl) rfl ?_
        refine O.ex (Ex.assign rfl) rfl ?_
        refine O.nil ?_
        refine hK5 _ _ _ ?_
        refine W.ret ?_
        try dsimp only [thenQ, blockQ, retQ]
        first | refine ⟨_, ⟨_, _, rfl, rfl, _, _, rfl, rfl, rfl⟩, ?_⟩ | (refine retD_mark ?_; intro w H; refine ⟨_, ⟨_, _, rfl, rfl, _, _, rfl, rfl, rfl⟩, ?_⟩) | (refine retD_mark2 ?_; intro w H; refine ⟨_, ⟨_, _, rfl, rfl, _, _, rfl, rfl, rfl⟩, ?_⟩)
        refine ⟨?_, rf_open.2 ⟨_, _, _, _, hr, rfO_open.2 (Holds.to (by assumption))⟩⟩
        first
        | (have e : atS s x = none := by unfold atS; rw [if_pos (by omega)]
           rw [e]; rfl)
        | (obtain ⟨k, rfl⟩ : ∃ k : Nat, x = k := ⟨x.toNat, by omega⟩
           have hk : k < s.length := by omega
           first
           | (have e : atS s (k : Int) = none := by unfold atS; rw [if_neg (by omega)]; exact hr.nn hk (by simpa using hno)
              rw [e]; rfl)
           | (have e : atS s (k : Int) = some (P.getD k default) := by unfold atS; rw [if_neg (by omega)]; exact hr.pg hk (by simpa using hyes)
              rw [e]; rfl))
      · refine W.skip ?_
        refine hK1 _ _ _ ?_
        refine W.seq (fun K6 hK6 => ?_)
        refine W.region ?_
        refine O.ex (Ex.move rfl) rfl ?_
        refine O.ex (by first | exact Ex.nilPtr rfl | exact Ex.nilFunc rfl | exact Ex.nilYield rfl) rfl ?_
        refine O.ex (by first | exact Ex.field0 fld52_1 rfl | exact Ex.field fld52_1 rfl | exact Ex.fieldS fld52_1 rfl) rfl ?_
        refine O.ex (by first | exact Ex.loadP Try.isAgg22 rfl | exact Ex.loadR Try.isAgg22 rfl | exact Ex.loadIn1 Try.isAgg22 rfl (Holds.to (by assumption))) rfl ?_
        refine O.ex (Ex.move rfl) rfl ?_
        refine O.ex (by first | exact Ex.idxR Try.runUnderlying22 Try.sizeOf3 rfl rfl | exact Ex.idxIn Try.runUnderlying22 Try.sizeOf3 rfl rfl | exact Ex.idxS Try.runUnderlying22 Try.sizeOf3 rfl rfl | exact Ex.idx Try.runUnderlying22 Try.sizeOf3 rfl rfl (by omega) (by omega)) rfl ?_
        refine O.ex (by first | exact Ex.loadP Try.isAgg3 rfl | exact Ex.loadR Try.isAgg3 rfl | exact Ex.loadIn1 Try.isAgg3 rfl (Holds.to (by assumption))) rfl ?_
        refine O.ex (Ex.assign rfl) rfl ?_
        refine O.ex (Ex.assign rfl) rfl ?_
        refine O.nil ?_
        refine hK6 _ _ _ ?_
        refine W.ret ?_
        try dsimp only [thenQ, blockQ, retQ]
        first | refine ⟨_, ⟨_, _, rfl, rfl, _, _, rfl, rfl, rfl⟩, ?_⟩ | (refine retD_mark ?_; intro w H; refine ⟨_, ⟨_, _, rfl, rfl, _, _, rfl, rfl, rfl⟩, ?_⟩) | (refine retD_mark2 ?_; intro w H; refine ⟨_, ⟨_, _, rfl, rfl, _, _, rfl, rfl, rfl⟩, ?_⟩)
        refine ⟨?_, rf_open.2 ⟨_, _, _, _, hr, rfO_open.2 (Holds.to (by assumption))⟩⟩
        first
        | (have e : atS s x = none := by unfold atS; rw [if_pos (by omega)]
           rw [e]; rfl)
        | (obtain ⟨k, rfl⟩ : ∃ k : Nat, x = k := ⟨x.toNat, by omega⟩
           have hk : k < s.length := by omega
           first
           | (have e : atS s (k : Int) = none := by unfold atS; rw [if_neg (by omega)]; exact hr.nn hk (by simpa using hno)
              rw [e]; rfl)
           | (have e : atS s (k : Int) = some (P.getD k default) := by unfold atS; rw [if_neg (by omega)]; exact hr.pg hk (by simpa using hyes)
              rw [e]; rfl))
theorem rfPut_ct {w : World} {r : Nat} {s : List (Option Int)} {x p : Int} {L : List HProp} (H : Holds w (Rf r s :: L)) :
    CT Try.prog 30 [.pointer (some ⟨r, 0, none⟩), .int .i64 x, .int .i64 p] w fun u w' => u = .int .i64 (putC RI s x p) ∧ Holds w' (Rf r (putL RI s x p) :: L) := by
  obtain ⟨iv, qv, I, P, hr, H⟩ := rf_open.1 H
  have H := rfO_open.1 H
  have li := hr.li
  have lp := hr.lp
  refine CT.enter (N := 49) Try.func30 rfl rfl rfl rfl ?_
  refine W.seq (fun K0 hK0 => ?_)
  refine W.region ?_
  refine O.ex (Ex.assign rfl) rfl ?_
  refine O.nil ?_
  refine hK0 _ _ _ ?_
  refine W.seq (fun K1 hK1 => ?_)
  refine W.seq (fun K2 hK2 => ?_)
  refine W.region ?_
  refine O.ex (Ex.move rfl) rfl ?_
  refine O.ex (Ex.lss rfl rfl) rfl ?_
  refine O.ex (Ex.move rfl) rfl ?_
  first | refine O.split_p (t := 9) rfl (fun hneg => ?_) (fun hpos => ?_) | refine O.split (t := 9) rfl (fun hneg => ?_) (fun hpos => ?_)
  · refine O.guard_f rfl rfl rfl rfl ?_
    refine O.guard_f rfl rfl rfl rfl ?_
    refine O.guard_f rfl rfl rfl rfl ?_
    refine O.guard_f rfl rfl rfl rfl ?_
    refine O.guard_f rfl rfl rfl rfl ?_
    refine O.guard_f rfl rfl rfl rfl ?_
    refine O.guard_f rfl rfl rfl rfl ?_
    refine O.ex (Ex.pick_t rfl rfl) rfl ?_
    refine O.nil ?_
    refine hK2 _ _ _ ?_
    refine W.cond_t rfl ?_
    refine W.seq (fun K3 hK3 => ?_)
    refine W.region ?_
    refine O.ex (Ex.assign rfl) rfl ?_
    refine O.nil ?_
    refine hK3 _ _ _ ?_
    refine W.ret ?_
    try dsimp only [thenQ, blockQ, retQ]
    first | refine ⟨_, ⟨_, _, rfl, rfl, rfl⟩, ?_⟩ | (refine retD_mark ?_; intro w H; refine ⟨_, ⟨_, _, rfl, rfl, rfl⟩, ?_⟩) | (refine retD_mark2 ?_; intro w H; refine ⟨_, ⟨_, _, rfl, rfl, rfl⟩, ?_⟩)
    first
    | (have hc : putC RI s x p = 1 := by unfold putC; rw [if_pos (by omega)]
       have hl : putL RI s x p = s := by unfold putL; rw [if_neg (by rw [hc]; decide)]
       rw [hc, hl]
       exact ⟨rfl, rf_open.2 ⟨_, _, _, _, hr, rfO_open.2 (Holds.to (by assumption))⟩⟩)
    | (have hs := hr.pg hk hin
       have hRp : ¬ RI p (P.getD k default) := Int.not_lt.2 hle
       have hc : putC RI s k p = 5 := by unfold putC; rw [if_neg (by omega), Int.toNat_natCast, hs]; exact if_neg hRp
       have hl : putL RI s k p = s := by unfold putL; rw [if_neg (by rw [hc]; decide)]
       rw [hc, hl]
       exact ⟨rfl, rf_open.2 ⟨_, _, _, _, hr, rfO_open.2 (Holds.to (by assumption))⟩⟩)
    | (have hc : putC RI s k p = 0 := by
         unfold putC; rw [if_neg (by omega), Int.toNat_natCast]
         first
         | (rw [hr.pg hk hin]; exact if_pos (Int.not_le.1 hgt))
         | rw [hr.nn hk (by simpa using hout)]
       have hl : putL RI s k p = s.set k (some p) := by unfold putL; rw [if_pos hc, Int.toNat_natCast]
       rw [hc, hl]
       exact ⟨rfl, rf_open.2 ⟨_, _, _, _, hr.put hk p, rfO_open.2 (Holds.to (by assumption))⟩⟩)
  · refine O.guard_t rfl rfl ?_
    refine O.ex (Ex.move rfl) rfl ?_
    refine O.guard_t rfl rfl ?_
    refine O.ex (Ex.move rfl) rfl ?_
    refine O.guard_t rfl rfl ?_
    refine O.ex (by first | exact Ex.nilPtr rfl | exact Ex.nilFunc rfl | exact Ex.nilYield rfl) rfl ?_
    refine O.guard_t rfl rfl ?_
    refine O.ex (by first | exact Ex.field0 fld52_0 rfl | exact Ex.field fld52_0 rfl | exact Ex.fieldS fld52_0 rfl) rfl ?_
    refine O.guard_t rfl rfl ?_
    refine O.ex (by first | exact Ex.loadP Try.isAgg50 rfl | exact Ex.loadR Try.isAgg50 rfl | exact Ex.loadIn1 Try.isAgg50 rfl (Holds.to (by assumption))) rfl ?_
    refine O.guard_t rfl rfl ?_
    refine O.ex (by first | exact Ex.lenR Try.runUnderlying50 rfl | exact Ex.lenIn Try.runUnderlying50 rfl | exact Ex.lenL Try.runUnderlying50 rfl | exact Ex.len rfl Try.runUnderlying50 rfl) rfl ?_
    refine O.guard_t rfl rfl ?_
    refine O.ex (Ex.geq rfl rfl) rfl ?_
    refine O.ex (Ex.pick_f rfl rfl) rfl ?_
    refine O.nil ?_
    refine hK2 _ _ _ ?_
    first | refine W.cond_p rfl (fun hge => ?_) (fun hlt => ?_) | refine W.cond_b rfl (fun hge => ?_) (fun hlt => ?_)
    · refine W.seq (fun K4 hK4 => ?_)
      refine W.region ?_
      refine O.ex (Ex.assign rfl) rfl ?_
      refine O.nil ?_
      refine hK4 _ _ _ ?_
      refine W.ret ?_
      try dsimp only [thenQ, blockQ, retQ]
      first | refine ⟨_, ⟨_, _, rfl, rfl, rfl⟩, ?_⟩ | (refine retD_mark ?_; intro w H; refine ⟨_, ⟨_, _, rfl, rfl, rfl⟩, ?_⟩) | (refine retD_mark2 ?_; intro w H; refine ⟨_, ⟨_, _, rfl, rfl, rfl⟩, ?_⟩)
      first
      | (have hc : putC RI s x p = 1 := by unfold putC; rw [if_pos (by omega)]
         have hl : putL RI s x p = s := by unfold putL; rw [if_neg (by rw [hc]; decide)]
         rw [hc, hl]
         exact ⟨rfl, rf_open.2 ⟨_, _, _, _, hr, rfO_open.2 (Holds.to (by assumption))⟩⟩)
      | (have hs := hr.pg hk hin
         have hRp : ¬ RI p (P.getD k default) := Int.not_lt.2 hle
         have hc : putC RI s k p = 5 := by unfold putC; rw [if_neg (by omega), Int.toNat_natCast, hs]; exact if_neg hRp
         have hl : putL RI s k p = s := by unfold putL; rw [if_neg (by rw [hc]; decide)]
         rw [hc, hl]
         exact ⟨rfl, rf_open.2 ⟨_, _, _, _, hr, rfO_open.2 (Holds.to (by assumption))⟩⟩)
      | (have hc : putC RI s k p = 0 := by
           unfold putC; rw [if_neg (by omega), Int.toNat_natCast]
           first
           | (rw [hr.pg hk hin]; exact if_pos (Int.not_le.1 hgt))
           | rw [hr.nn hk (by simpa using hout)]
         have hl : putL RI s k p = s.set k (some p) := by unfold putL; rw [if_pos hc, Int.toNat_natCast]
         rw [hc, hl]
         exact ⟨rfl, rf_open.2 ⟨_, _, _, _, hr.put hk p, rfO_open.2 (Holds.to (by assumption))⟩⟩)
    · refine W.skip ?_
      refine hK1 _ _ _ ?_
      refine W.seq (fun K5 hK5 => ?_)
      refine W.seq (fun K6 hK6 => ?_)
      refine W.region ?_
      obtain ⟨k, rfl⟩ : ∃ k : Nat, x = k := ⟨x.toNat, by omega⟩
      have hk : k < s.length := by omega
      have hk0 : (0 : Int) ≤ (k : Int) := by omega
      refine O.ex (Ex.move rfl) rfl ?_
      refine O.ex (by first | exact Ex.nilPtr rfl | exact Ex.nilFunc rfl | exact Ex.nilYield rfl) rfl ?_
      refine O.ex (by first | exact Ex.field0 fld52_0 rfl | exact Ex.field fld52_0 rfl | exact Ex.fieldS fld52_0 rfl) rfl ?_
      refine O.ex (by first | exact Ex.loadP Try.isAgg50 rfl | exact Ex.loadR Try.isAgg50 rfl | exact Ex.loadIn1 Try.isAgg50 rfl (Holds.to (by assumption))) rfl ?_
      refine O.ex (Ex.move rfl) rfl ?_
      refine O.ex (by first | exact Ex.idxR Try.runUnderlying50 Try.sizeOf4 rfl rfl | exact Ex.idxIn Try.runUnderlying50 Try.sizeOf4 rfl rfl | exact Ex.idxS Try.runUnderlying50 Try.sizeOf4 rfl rfl | exact Ex.idx Try.runUnderlying50 Try.sizeOf4 rfl rfl (by omega) (by omega)) rfl ?_
      refine O.ex (by first | exact Ex.loadP Try.isAgg4 rfl | exact Ex.loadR Try.isAgg4 rfl | exact Ex.loadIn1 Try.isAgg4 rfl (Holds.to (by assumption))) rfl ?_
      refine O.ex (Ex.move rfl) rfl ?_
      first | refine O.split_p (t := 25) rfl (fun hin => ?_) (fun hout => ?_) | refine O.split (t := 25) rfl (fun hin => ?_) (fun hout => ?_)
      · refine O.guard_t rfl rfl ?_
        refine O.ex (Ex.move rfl) rfl ?_
        refine O.guard_t rfl rfl ?_
        refine O.ex (by first | exact Ex.nilPtr rfl | exact Ex.nilFunc rfl | exact Ex.nilYield rfl) rfl ?_
        refine O.guard_t rfl rfl ?_
        refine O.ex (by first | exact Ex.field0 fld52_1 rfl | exact Ex.field fld52_1 rfl | exact Ex.fieldS fld52_1 rfl) rfl ?_
        refine O.guard_t rfl rfl ?_
        refine O.ex (by first | exact Ex.loadP Try.isAgg22 rfl | exact Ex.loadR Try.isAgg22 rfl | exact Ex.loadIn1 Try.isAgg22 rfl (Holds.to (by assumption))) rfl ?_
        refine O.guard_t rfl rfl ?_
        refine O.ex (Ex.move rfl) rfl ?_
        refine O.guard_t rfl rfl ?_
        refine O.ex (by first | exact Ex.idxR Try.runUnderlying22 Try.sizeOf3 rfl rfl | exact Ex.idxIn Try.runUnderlying22 Try.sizeOf3 rfl rfl | exact Ex.idxS Try.runUnderlying22 Try.sizeOf3 rfl rfl | exact Ex.idx Try.runUnderlying22 Try.sizeOf3 rfl rfl (by omega) (by omega)) rfl ?_
        refine O.guard_t rfl rfl ?_
        refine O.ex (by first | exact Ex.loadP Try.isAgg3 rfl | exact Ex.loadR Try.isAgg3 rfl | exact Ex.loadIn1 Try.isAgg3 rfl (Holds.to (by assumption))) rfl ?_
        refine O.guard_t rfl rfl ?_
        refine O.ex (Ex.move rfl) rfl ?_
        refine O.guard_t rfl rfl ?_
        refine O.ex (Ex.leq rfl rfl) rfl ?_
        refine O.ex (Ex.pick_t rfl rfl) rfl ?_
        refine O.nil ?_
        refine hK6 _ _ _ ?_
        first | refine W.cond_p rfl (fun hle => ?_) (fun hgt => ?_) | refine W.cond_b rfl (fun hle => ?_) (fun hgt => ?_)
        · refine W.seq (fun K7 hK7 => ?_)
          refine W.region ?_
          refine O.ex (Ex.assign rfl) rfl ?_
          refine O.nil ?_
          refine hK7 _ _ _ ?_
          refine W.ret ?_
          try dsimp only [thenQ, blockQ, retQ]
          first | refine ⟨_, ⟨_, _, rfl, rfl, rfl⟩, ?_⟩ | (refine retD_mark ?_; intro w H; refine ⟨_, ⟨_, _, rfl, rfl, rfl⟩, ?_⟩) | (refine retD_mark2 ?_; intro w H; refine ⟨_, ⟨_, _, rfl, rfl, rfl⟩, ?_⟩)
          first
          | (have hc : putC RI s x p = 1 := by unfold putC; rw [if_pos (by omega)]
             have hl : putL RI s x p = s := by unfold putL; rw [if_neg (by rw [hc]; decide)]
             rw [hc, hl]
             exact ⟨rfl, rf_open.2 ⟨_, _, _, _, hr, rfO_open.2 (Holds.to (by assumption))⟩⟩)
          | (have hs := hr.pg hk hin
             have hRp : ¬ RI p (P.getD k default) := Int.not_lt.2 hle
             have hc : putC RI s k p = 5 := by unfold putC; rw [if_neg (by omega), Int.toNat_natCast, hs]; exact if_neg hRp
             have hl : putL RI s k p = s := by unfold putL; rw [if_neg (by rw [hc]; decide)]
             rw [hc, hl]
             exact ⟨rfl, rf_open.2 ⟨_, _, _, _, hr, rfO_open.2 (Holds.to (by assumption))⟩⟩)
          | (have hc : putC RI s k p = 0 := by
               unfold putC; rw [if_neg (by omega), Int.toNat_natCast]
               first
               | (rw [hr.pg hk hin]; exact if_pos (Int.not_le.1 hgt))
               | rw [hr.nn hk (by simpa using hout)]
             have hl : putL RI s k p = s.set k (some p) := by unfold putL; rw [if_pos hc, Int.toNat_natCast]
             rw [hc, hl]
             exact ⟨rfl, rf_open.2 ⟨_, _, _, _, hr.put hk p, rfO_open.2 (Holds.to (by assumption))⟩⟩)
        · refine W.skip ?_
          refine hK5 _ _ _ ?_
          refine W.seq (fun K8 hK8 => ?_)
          refine W.region ?_
          refine O.ex (Ex.move rfl) rfl ?_
          refine O.ex (by first | exact Ex.nilPtr rfl | exact Ex.nilFunc rfl | exact Ex.nilYield rfl) rfl ?_
          refine O.ex (by first | exact Ex.field0 fld52_0 rfl | exact Ex.field fld52_0 rfl | exact Ex.fieldS fld52_0 rfl) rfl ?_
          refine O.ex (by first | exact Ex.loadP Try.isAgg50 rfl | exact Ex.loadR Try.isAgg50 rfl | exact Ex.loadIn1 Try.isAgg50 rfl (Holds.to (by assumption))) rfl ?_
          refine O.ex (Ex.move rfl) rfl ?_
          refine O.ex (by first | exact Ex.idxR Try.runUnderlying50 Try.sizeOf4 rfl rfl | exact Ex.idxIn Try.runUnderlying50 Try.sizeOf4 rfl rfl | exact Ex.idxS Try.runUnderlying50 Try.sizeOf4 rfl rfl | exact Ex.idx Try.runUnderlying50 Try.sizeOf4 rfl rfl (by omega) (by omega)) rfl ?_
          first | refine O.storeP Try.sizeOf4 rfl rfl (fun w H => ?_) | refine O.storeR Try.sizeOf4 rfl rfl (fun w H => ?_)
          refine O.nil ?_
          refine hK8 _ _ _ ?_
          refine W.seq (fun K9 hK9 => ?_)
          refine W.region ?_
          refine O.ex (Ex.move rfl) rfl ?_
          refine O.ex (by first | exact Ex.nilPtr rfl | exact Ex.nilFunc rfl | exact Ex.nilYield rfl) rfl ?_
          refine O.ex (by first | exact Ex.field0 fld52_1 rfl | exact Ex.field fld52_1 rfl | exact Ex.fieldS fld52_1 rfl) rfl ?_
          refine O.ex (by first | exact Ex.loadP Try.isAgg22 rfl | exact Ex.loadR Try.isAgg22 rfl | exact Ex.loadIn1 Try.isAgg22 rfl (Holds.to (by assumption))) rfl ?_
          refine O.ex (Ex.move rfl) rfl ?_
          refine O.ex (Ex.move rfl) rfl ?_
          refine O.ex (by first | exact Ex.idxR Try.runUnderlying22 Try.sizeOf3 rfl rfl | exact Ex.idxIn Try.runUnderlying22 Try.sizeOf3 rfl rfl | exact Ex.idxS Try.runUnderlying22 Try.sizeOf3 rfl rfl | exact Ex.idx Try.runUnderlying22 Try.sizeOf3 rfl rfl (by omega) (by omega)) rfl ?_
          first | refine O.storeP Try.sizeOf3 rfl rfl (fun w H => ?_) | refine O.storeR Try.sizeOf3 rfl rfl (fun w H => ?_)
          refine O.nil ?_
          refine hK9 _ _ _ ?_
          refine W.seq (fun K10 hK10 => ?_)
          refine W.region ?_
          refine O.ex (Ex.assign rfl) rfl ?_
          refine O.nil ?_
          refine hK10 _ _ _ ?_
          refine W.ret ?_
          try dsimp only [thenQ, blockQ, retQ]
          first | refine ⟨_, ⟨_, _, rfl, rfl, rfl⟩, ?_⟩ | (refine retD_mark ?_; intro w H; refine ⟨_, ⟨_, _, rfl, rfl, rfl⟩, ?_⟩) | (refine retD_mark2 ?_; intro w H; refine ⟨_, ⟨_, _, rfl, rfl, rfl⟩, ?_⟩)
          first
          | (have hc : putC RI s x p = 1 := by unfold putC; rw [if_pos (by omega)]
             have hl : putL RI s x p = s := by unfold putL; rw [if_neg (by rw [hc]; decide)]
             rw [hc, hl]
             exact ⟨rfl, rf_open.2 ⟨_, _, _, _, hr, rfO_open.2 (Holds.to (by assumption))⟩⟩)
          | (have hs := hr.pg hk hin
             have hRp : ¬ RI p (P.getD k default) := Int.not_lt.2 hle
             have hc : putC RI s k p = 5 := by unfold putC; rw [if_neg (by omega), Int.toNat_natCast, hs]; exact if_neg hRp
             have hl : putL RI s k p = s := by unfold putL; rw [if_neg (by rw [hc]; decide)]
             rw [hc, hl]
             exact ⟨rfl, rf_open.2 ⟨_, _, _, _, hr, rfO_open.2 (Holds.to (by assumption))⟩⟩)
          | (have hc : putC RI s k p = 0 := by
               unfold putC; rw [if_neg (by omega), Int.toNat_natCast]
               first
               | (rw [hr.pg hk hin]; exact if_pos (Int.not_le.1 hgt))
               | rw [hr.nn hk (by simpa using hout)]
             have hl : putL RI s k p = s.set k (some p) := by unfold putL; rw [if_pos hc, Int.toNat_natCast]
             rw [hc, hl]
             exact ⟨rfl, rf_open.2 ⟨_, _, _, _, hr.put hk p, rfO_open.2 (Holds.to (by assumption))⟩⟩)
      · refine O.guard_f rfl rfl rfl rfl ?_
        refine O.guard_f rfl rfl rfl rfl ?_
        refine O.guard_f rfl rfl rfl rfl ?_
        refine O.guard_f rfl rfl rfl rfl ?_
        refine O.guard_f rfl rfl rfl rfl ?_
        refine O.guard_f rfl rfl rfl rfl ?_
        refine O.guard_f rfl rfl rfl rfl ?_
        refine O.guard_f rfl rfl rfl rfl ?_
        refine O.guard_f rfl rfl rfl rfl ?_
        refine O.ex (Ex.pick_f rfl rfl) rfl ?_
        refine O.nil ?_
        refine hK6 _ _ _ ?_
        refine W.cond_f rfl ?_
        refine W.skip ?_
        refine hK5 _ _ _ ?_
        refine W.seq (fun K11 hK11 => ?_)
        refine W.region ?_
        refine O.ex (Ex.move rfl) rfl ?_
        refine O.ex (by first | exact Ex.nilPtr rfl | exact Ex.nilFunc rfl | exact Ex.nilYield rfl) rfl ?_
        refine O.ex (by first | exact Ex.field0 fld52_0 rfl | exact Ex.field fld52_0 rfl | exact Ex.fieldS fld52_0 rfl) rfl ?_
        refine O.ex (by first | exact Ex.loadP Try.isAgg50 rfl | exact Ex.loadR Try.isAgg50 rfl | exact Ex.loadIn1 Try.isAgg50 rfl (Holds.to (by assumption))) rfl ?_
        refine O.ex (Ex.move rfl) rfl ?_
        refine O.ex (by first | exact Ex.idxR Try.runUnderlying50 Try.sizeOf4 rfl rfl | exact Ex.idxIn Try.runUnderlying50 Try.sizeOf4 rfl rfl | exact Ex.idxS Try.runUnderlying50 Try.sizeOf4 rfl rfl | exact Ex.idx Try.runUnderlying50 Try.sizeOf4 rfl rfl (by omega) (by omega)) rfl ?_
        first | refine O.storeP Try.sizeOf4 rfl rfl (fun w H => ?_) | refine O.storeR Try.sizeOf4 rfl rfl (fun w H => ?_)
        refine O.nil ?_
        refine hK11 _ _ _ ?_
        refine W.seq (fun K12 hK12 => ?_)
        refine W.region ?_
        refine O.ex (Ex.move rfl) rfl ?_
        refine O.ex (by first | exact Ex.nilPtr rfl | exact Ex.nilFunc rfl | exact Ex.nilYield rfl) rfl ?_
        refine O.ex (by first | exact Ex.field0 fld52_1 rfl | exact Ex.field fld52_1 rfl | exact Ex.fieldS fld52_1 rfl) rfl ?_
        refine O.ex (by first | exact Ex.loadP Try.isAgg22 rfl | exact Ex.loadR Try.isAgg22 rfl | exact Ex.loadIn1 Try.isAgg22 rfl (Holds.to (by assumption))) rfl ?_
        refine O.ex (Ex.move rfl) rfl ?_
        refine O.ex (Ex.move rfl) rfl ?_
        refine O.ex (by first | exact Ex.idxR Try.runUnderlying22 Try.sizeOf3 rfl rfl | exact Ex.idxIn Try.runUnderlying22 Try.sizeOf3 rfl rfl | exact Ex.idxS Try.runUnderlying22 Try.sizeOf3 rfl rfl | exact Ex.idx Try.runUnderlying22 Try.sizeOf3 rfl rfl (by omega) (by omega)) rfl ?_
        first | refine O.storeP Try.sizeOf3 rfl rfl (fun w H => ?_) | refine O.storeR Try.sizeOf3 rfl rfl (fun w H => ?_)
        refine O.nil ?_
        refine hK12 _ _ _ ?_
        refine W.seq (fun K13 hK13 => ?_)
        refine W.region ?_
        refine O.ex (Ex.assign rfl) rfl ?_
        refine O.nil ?_
        refine hK13 _ _ _ ?_
        refine W.ret ?_
        try dsimp only [thenQ, blockQ, retQ]
        first | refine ⟨_, ⟨_, _, rfl, rfl, rfl⟩, ?_⟩ | (refine retD_mark ?_; intro w H; refine ⟨_, ⟨_, _, rfl, rfl, rfl⟩, ?_⟩) | (refine retD_mark2 ?_; intro w H; refine ⟨_, ⟨_, _, rfl, rfl, rfl⟩, ?_⟩)
        first
        | (have hc : putC RI s x p = 1 := by unfold putC; rw [if_pos (by omega)]
           have hl : putL RI s x p = s := by unfold putL; rw [if_neg (by rw [hc]; decide)]
           rw [hc, hl]
           exact ⟨rfl, rf_open.2 ⟨_, _, _, _, hr, rfO_open.2 (Holds.to (by assumption))⟩⟩)
        | (have hs := hr.pg hk hin
           have hRp : ¬ RI p (P.getD k default) := Int.not_lt.2 hle
           have hc : putC RI s k p = 5 := by unfold putC; rw [if_neg (by omega), Int.toNat_natCast, hs]; exact if_neg hRp
           have hl : putL RI s k p = s := by unfold putL; rw [if_neg (by rw [hc]; decide)]
           rw [hc, hl]
           exact ⟨rfl, rf_open.2 ⟨_, _, _, _, hr, rfO_open.2 (Holds.to (by assumption))⟩⟩)
        | (have hc : putC RI s k p = 0 := by
             unfold putC; rw [if_neg (by omega), Int.toNat_natCast]
             first
             | (rw [hr.pg hk hin]; exact if_pos (Int.not_le.1 hgt))
             | rw [hr.nn hk (by simpa using hout)]
           have hl : putL RI s k p = s.set k (some p) := by unfold putL; rw [if_pos hc, Int.toNat_natCast]
           rw [hc, hl]
           exact ⟨rfl, rf_open.2 ⟨_, _, _, _, hr.put hk p, rfO_open.2 (Holds.to (by assumption))⟩⟩)
def bI : Option Nat → Int
  | none => -1
  | some b => (b : Int)
theorem bst_lt {s : List (Option Int)} {i : Nat} : -1 ≤ bI (bst RI s i) ∧ bI (bst RI s i) < i := by
  cases e : bst RI s i with
  | none => unfold bI; dsimp only; omega
  | some b => have := (bst_some soI e).lt; unfold bI; dsimp only; omega
theorem bI_nn {o : Option Nat} (h : ¬ bI o < 0) : ∃ b : Nat, o = some b ∧ bI o = b := by
  cases o with
  | none => exact absurd (by decide) h
  | some b => exact ⟨b, rfl, rfl⟩
theorem bI_neg {o : Option Nat} (h : bI o < 0) : o = none := by
  cases o with
  | none => rfl
  | some b => exact absurd h (by unfold bI; dsimp only; omega)
set_option maxHeartbeats 1000000 in
theorem rfPeek_ct {w : World} {r : Nat} {s : List (Option Int)} {L : List HProp} (hl : s.length ≤ 64) (H : Holds w (Rf r s :: L)) :
    CT Try.prog 39 [.pointer (some ⟨r, 0, none⟩)] w fun u w' => u = .tuple #[.int .i64 (pkN RI s : Int), .int .i64 (pkP RI s), .bool (pkO RI s)] ∧ Holds w' (Rf r s :: L) := by
  obtain ⟨iv, qv, I, P, hr, H⟩ := rf_open.1 H
  have H := rfO_open.1 H
  have li := hr.li
  have lp := hr.lp
  refine CT.enter (N := 55) Try.func39 rfl rfl rfl rfl ?_
  refine W.seq (fun K0 hK0 => ?_)
  refine W.region ?_
  refine O.ex (Ex.assign rfl) rfl ?_
  refine O.ex (Ex.assign rfl) rfl ?_
  refine O.ex (Ex.assign rfl) rfl ?_
  refine O.nil ?_
  refine hK0 _ _ _ ?_
  refine W.seq (fun K1 hK1 => ?_)
  refine W.region ?_
  refine O.ex (Ex.assign rfl) rfl ?_
  refine O.nil ?_
  refine hK1 _ _ _ ?_
  refine W.seq (fun K2 hK2 => ?_)
  refine W.seq (fun K3 hK3 => ?_)
  refine W.region ?_
  refine O.ex (Ex.assign rfl) rfl ?_
  refine O.nil ?_
  refine hK3 _ _ _ ?_
  refine W.block ?_
  have H := rfO_open.2 (Holds.to (by assumption))
  refine W.loop (σ := Nat) (fun i => [(0, .pointer (some ⟨r, 0, none⟩)), (2, .int .i64 0), (3, .int .i64 0), (4, .bool false), (5, .int .i64 (bI (bst RI s i))), (6, .int .i64 (i : Int))]) (fun i ds w => ds = [] ∧ i ≤ s.length ∧ Holds w (RfO r iv qv I P :: L)) (fun i => s.length - i) 0 ⟨rfl, rfl, rfl, rfl, rfl, rfl, trivial⟩ ⟨rfl, by omega, H⟩ ?_
  clear H
  rintro i _ w ⟨rfl, hi, H⟩
  have H := rfO_open.1 H
  obtain ⟨b, hb⟩ : ∃ b, b = bI (bst RI s i) := ⟨_, rfl⟩
  have hbb := bst_lt (s := s) (i := i)
  rw [← hb] at hbb ⊢
  refine W.seq (fun K4 hK4 => ?_)
  refine W.seq (fun K5 hK5 => ?_)
  refine W.region ?_
  refine O.ex (Ex.move rfl) rfl ?_
  refine O.ex (Ex.move rfl) rfl ?_
  refine O.ex (by first | exact Ex.nilPtr rfl | exact Ex.nilFunc rfl | exact Ex.nilYield rfl) rfl ?_
  refine O.ex (by first | exact Ex.field0 fld52_0 rfl | exact Ex.field fld52_0 rfl | exact Ex.fieldS fld52_0 rfl) rfl ?_
  refine O.ex (by first | exact Ex.loadP Try.isAgg50 rfl | exact Ex.loadR Try.isAgg50 rfl | exact Ex.loadIn1 Try.isAgg50 rfl (Holds.to (by assumption))) rfl ?_
  refine O.ex (by first | exact Ex.lenR Try.runUnderlying50 rfl | exact Ex.lenIn Try.runUnderlying50 rfl | exact Ex.lenL Try.runUnderlying50 rfl | exact Ex.len rfl Try.runUnderlying50 rfl) rfl ?_
  refine O.ex (Ex.lss rfl rfl) rfl ?_
  refine O.nil ?_
  refine hK5 _ _ _ ?_
  first | refine W.cond_p rfl (fun hlt => ?_) (fun hge => ?_) | refine W.cond_b rfl (fun hlt => ?_) (fun hge => ?_)
  · refine W.skip ?_
    refine hK4 _ _ _ ?_
    refine W.seq (fun K6 hK6 => ?_)
    refine W.block ?_
    refine W.seq (fun K7 hK7 => ?_)
    have hin2 : i < s.length := by omega
    have s1 := arr_sl (e := Value.bool) (v := iv) (xs := I) (Holds.to (by assumption)) (by omega)
    have s2 := arr_sl (e := Value.int .i64) (v := qv) (xs := P) (Holds.to (by assumption)) (by omega)
    refine W.drawTo _ (.take 0 (.take 1 (.take 2 (.take 3 (.take 4 (.take 5 (.take 6 (.take 7 (.take 8 (.take 9 (.take 10 (.take 11 (.take 12 (.take 13 (.take 14 (.take 15 (.take 16 (.take 17 (.take 18 (.take 19 (.take 20 (.take 21 (.take 22 (.take 23 (.take 24 (.take 25 (.take 26 (.take 27 .nil)))))))))))))))))))))))))))) (mixed) (fun _ _ _ _ h => h) (by assumption) (PP.refl _) (by decide +kernel) (fun w H => ?_)
    refine OQ.ex rfl (fun w H => (Ex.move rfl)) rfl ?_
    refine OQ.ex rfl (fun w H => (by first | exact Ex.nilPtr rfl | exact Ex.nilFunc rfl | exact Ex.nilYield rfl)) rfl ?_
    refine OQ.ex rfl (fun w H => (by first | exact Ex.field0 fld52_0 rfl | exact Ex.field fld52_0 rfl | exact Ex.fieldS fld52_0 rfl)) rfl ?_
    refine OQ.ex rfl (fun w H => (by first | exact Ex.loadP Try.isAgg50 rfl | exact Ex.loadR Try.isAgg50 rfl | exact Ex.loadIn1 Try.isAgg50 rfl (Holds.to (by assumption)))) rfl ?_
    refine OQ.ex rfl (fun w H => (Ex.move rfl)) rfl ?_
    refine OQ.ex rfl (fun w H => (by first | exact Ex.idxR Try.runUnderlying50 Try.sizeOf4 rfl rfl | exact Ex.idxIn Try.runUnderlying50 Try.sizeOf4 rfl rfl | exact Ex.idxS Try.runUnderlying50 Try.sizeOf4 rfl rfl | exact Ex.idx Try.runUnderlying50 Try.sizeOf4 rfl rfl (by omega) (by omega))) rfl ?_
    refine OQ.ex rfl (fun w H => (by first | exact Ex.loadP Try.isAgg4 rfl | exact Ex.loadR Try.isAgg4 rfl | exact Ex.loadIn1 Try.isAgg4 rfl (Holds.to (by assumption)))) rfl ?_
    refine OQ.ex rfl (fun w H => (Ex.move rfl)) rfl ?_
    first | refine OQ.split_p (t := 23) rfl (fun hin => ?_) (fun hout => ?_) | refine OQ.split (t := 23) rfl (fun hin => ?_) (fun hout => ?_)
    · refine OQ.exT rfl rfl rfl (fun w H => (Ex.move rfl)) rfl ?_
      refine OQ.exT rfl rfl rfl (fun w H => (Ex.lss rfl rfl)) rfl ?_
      refine OQ.exT rfl rfl rfl (fun w H => (Ex.move rfl)) rfl ?_
      first | refine OQ.split_p (t := 26) rfl (fun hbn => ?_) (fun hbp => ?_) | refine OQ.split (t := 26) rfl (fun hbn => ?_) (fun hbp => ?_)
      · refine OQ.exF rfl rfl rfl rfl rfl ?_
        refine OQ.exF rfl rfl rfl rfl rfl ?_
        refine OQ.exF rfl rfl rfl rfl rfl ?_
        refine OQ.exF rfl rfl rfl rfl rfl ?_
        refine OQ.exF rfl rfl rfl rfl rfl ?_
        refine OQ.exF rfl rfl rfl rfl rfl ?_
        refine OQ.exF rfl rfl rfl rfl rfl ?_
        refine OQ.exF rfl rfl rfl rfl rfl ?_
        refine OQ.exF rfl rfl rfl rfl rfl ?_
        refine OQ.exF rfl rfl rfl rfl rfl ?_
        refine OQ.exF rfl rfl rfl rfl rfl ?_
        refine OQ.exF rfl rfl rfl rfl rfl ?_
        refine OQ.exF rfl rfl rfl rfl rfl ?_
        refine OQ.exF rfl rfl rfl rfl rfl ?_
        refine OQ.exF rfl rfl rfl rfl rfl ?_
        refine OQ.exT rfl rfl rfl (fun w H => (Ex.pick_t rfl rfl)) rfl ?_
        refine OQ.ex rfl (fun w H => (Ex.pick_t rfl rfl)) rfl ?_
        refine OQ.done ?_
        refine hK7 _ _ _ ?_
        refine W.cond_t rfl ?_
        refine W.region ?_
        refine O.ex (Ex.move rfl) rfl ?_
        refine O.ex (Ex.assign rfl) rfl ?_
        refine O.nil ?_
        refine hK6 _ _ _ ?_
        refine W.region ?_
        refine O.ex (Ex.move rfl) rfl ?_
        refine O.ex (by first | exact Ex.addI rfl rfl | exact Ex.add rfl rfl rfl) rfl ?_
        refine O.ex (Ex.assign rfl) rfl ?_
        refine O.nil ?_
        refine ⟨i + 1, ⟨rfl, rfl, rfl, rfl, ?_, rfl, trivial⟩, ⟨rfl, by omega, rfO_open.2 (Holds.to (by assumption))⟩, by omega⟩
        show some (Value.int .i64 _) = some (Value.int .i64 _)
        congr 2
        unfold bst
        first
        | rw [hr.nn hin2 (by simpa using hout)]; exact hb
        | (rw [hr.pg hin2 hin, bI_neg (show bI (bst RI s i) < 0 by rw [← hb]; exact hbn)]; rfl)
        | (obtain ⟨b0, e1, e2⟩ := bI_nn (show ¬ bI (bst RI s i) < 0 by rw [← hb]; exact hbp)
           have hk := (bst_some soI e1).lt
           have e3 : Hp.pg s b0 = P.getD b.toNat default := by
             have := (bst_some soI e1).is
             rw [← hr.at_ b0 _ this, hb, e2]; rfl
           rw [hr.pg hin2 hin, e1]
           dsimp only
           rw [e3]
           first
           | (rw [if_pos (show RI (P.getD i default) (P.getD b.toNat default) from hll)]; rfl)
           | (rw [if_neg (show ¬ RI (P.getD i default) (P.getD b.toNat default) from hnl)]; exact hb.trans e2))
      · refine OQ.exT rfl rfl rfl (fun w H => (Ex.move rfl)) rfl ?_
        refine OQ.exT rfl rfl rfl (fun w H => (by first | exact Ex.nilPtr rfl | exact Ex.nilFunc rfl | exact Ex.nilYield rfl)) rfl ?_
        refine OQ.exT rfl rfl rfl (fun w H => (by first | exact Ex.field0 fld52_1 rfl | exact Ex.field fld52_1 rfl | exact Ex.fieldS fld52_1 rfl)) rfl ?_
        refine OQ.exT rfl rfl rfl (fun w H => (by first | exact Ex.loadP Try.isAgg22 rfl | exact Ex.loadR Try.isAgg22 rfl | exact Ex.loadIn1 Try.isAgg22 rfl (Holds.to (by assumption)))) rfl ?_
        refine OQ.exT rfl rfl rfl (fun w H => (Ex.move rfl)) rfl ?_
        refine OQ.exT rfl rfl rfl (fun w H => (by first | exact Ex.idxR Try.runUnderlying22 Try.sizeOf3 rfl rfl | exact Ex.idxIn Try.runUnderlying22 Try.sizeOf3 rfl rfl | exact Ex.idxS Try.runUnderlying22 Try.sizeOf3 rfl rfl | exact Ex.idx Try.runUnderlying22 Try.sizeOf3 rfl rfl (by omega) (by omega))) rfl ?_
        refine OQ.exT rfl rfl rfl (fun w H => (by first | exact Ex.loadP Try.isAgg3 rfl | exact Ex.loadR Try.isAgg3 rfl | exact Ex.loadIn1 Try.isAgg3 rfl (Holds.to (by assumption)))) rfl ?_
        refine OQ.exT rfl rfl rfl (fun w H => (Ex.move rfl)) rfl ?_
        refine OQ.exT rfl rfl rfl (fun w H => (by first | exact Ex.nilPtr rfl | exact Ex.nilFunc rfl | exact Ex.nilYield rfl)) rfl ?_
        refine OQ.exT rfl rfl rfl (fun w H => (by first | exact Ex.field0 fld52_1 rfl | exact Ex.field fld52_1 rfl | exact Ex.fieldS fld52_1 rfl)) rfl ?_
        refine OQ.exT rfl rfl rfl (fun w H => (by first | exact Ex.loadP Try.isAgg22 rfl | exact Ex.loadR Try.isAgg22 rfl | exact Ex.loadIn1 Try.isAgg22 rfl (Holds.to (by assumption)))) rfl ?_
        refine OQ.exT rfl rfl rfl (fun w H => (Ex.move rfl)) rfl ?_
        refine OQ.exT rfl rfl rfl (fun w H => (by first | exact Ex.idxR Try.runUnderlying22 Try.sizeOf3 rfl rfl | exact Ex.idxIn Try.runUnderlying22 Try.sizeOf3 rfl rfl | exact Ex.idxS Try.runUnderlying22 Try.sizeOf3 rfl rfl | exact Ex.idx Try.runUnderlying22 Try.sizeOf3 rfl rfl (by omega) (by omega))) rfl ?_
        refine OQ.exT rfl rfl rfl (fun w H => (by first | exact Ex.loadP Try.isAgg3 rfl | exact Ex.loadR Try.isAgg3 rfl | exact Ex.loadIn1 Try.isAgg3 rfl (Holds.to (by assumption)))) rfl ?_
        refine OQ.exT rfl rfl rfl (fun w H => (Ex.lss rfl rfl)) rfl ?_
        refine OQ.exT rfl rfl rfl (fun w H => (Ex.pick_f rfl rfl)) rfl ?_
        refine OQ.ex rfl (fun w H => (Ex.pick_t rfl rfl)) rfl ?_
        refine OQ.done ?_
        refine hK7 _ _ _ ?_
        first | refine W.cond_p rfl (fun hll => ?_) (fun hnl => ?_) | refine W.cond_b rfl (fun hll => ?_) (fun hnl => ?_)
        · refine W.region ?_
          refine O.ex (Ex.move rfl) rfl ?_
          refine O.ex (Ex.assign rfl) rfl ?_
          refine O.nil ?_
          refine hK6 _ _ _ ?_
          refine W.region ?_
          refine O.ex (Ex.move rfl) rfl ?_
          refine O.ex (by first | exact Ex.addI rfl rfl | exact Ex.add rfl rfl rfl) rfl ?_
          refine O.ex (Ex.assign rfl) rfl ?_
          refine O.nil ?_
          refine ⟨i + 1, ⟨rfl, rfl, rfl, rfl, ?_, rfl, trivial⟩, ⟨rfl, by omega, rfO_open.2 (Holds.to (by assumption))⟩, by omega⟩
          show some (Value.int .i64 _) = some (Value.int .i64 _)
          congr 2
          unfold bst
          first
          | rw [hr.nn hin2 (by simpa using hout)]; exact hb
          | (rw [hr.pg hin2 hin, bI_neg (show bI (bst RI s i) < 0 by rw [← hb]; exact hbn)]; rfl)
          | (obtain ⟨b0, e1, e2⟩ := bI_nn (show ¬ bI (bst RI s i) < 0 by rw [← hb]; exact hbp)
             have hk := (bst_some soI e1).lt
             have e3 : Hp.pg s b0 = P.getD b.toNat default := by
               have := (bst_some soI e1).is
               rw [← hr.at_ b0 _ this, hb, e2]; rfl
             rw [hr.pg hin2 hin, e1]
             dsimp only
             rw [e3]
             first
             | (rw [if_pos (show RI (P.getD i default) (P.getD b.toNat default) from hll)]; rfl)
             | (rw [if_neg (show ¬ RI (P.getD i default) (P.getD b.toNat default) from hnl)]; exact hb.trans e2))
        · refine W.skip ?_
          refine hK6 _ _ _ ?_
          refine W.region ?_
          refine O.ex (Ex.move rfl) rfl ?_
          refine O.ex (by first | exact Ex.addI rfl rfl | exact Ex.add rfl rfl rfl) rfl ?_
          refine O.ex (Ex.assign rfl) rfl ?_
          refine O.nil ?_
          refine ⟨i + 1, ⟨rfl, rfl, rfl, rfl, ?_, rfl, trivial⟩, ⟨rfl, by omega, rfO_open.2 (Holds.to (by assumption))⟩, by omega⟩
          show some (Value.int .i64 _) = some (Value.int .i64 _)
          congr 2
          unfold bst
          first
          | rw [hr.nn hin2 (by simpa using hout)]; exact hb
          | (rw [hr.pg hin2 hin, bI_neg (show bI (bst RI s i) < 0 by rw [← hb]; exact hbn)]; rfl)
          | (obtain ⟨b0, e1, e2⟩ := bI_nn (show ¬ bI (bst RI s i) < 0 by rw [← hb]; exact hbp)
             have hk := (bst_some soI e1).lt
             have e3 : Hp.pg s b0 = P.getD b.toNat default := by
               have := (bst_some soI e1).is
               rw [← hr.at_ b0 _ this, hb, e2]; rfl
             rw [hr.pg hin2 hin, e1]
             dsimp only
             rw [e3]
             first
             | (rw [if_pos (show RI (P.getD i default) (P.getD b.toNat default) from hll)]; rfl)
             | (rw [if_neg (show ¬ RI (P.getD i default) (P.getD b.toNat default) from hnl)]; exact hb.trans e2))
    · refine OQ.exF rfl rfl rfl rfl rfl ?_
      refine OQ.exF rfl rfl rfl rfl rfl ?_
      refine OQ.exF rfl rfl rfl rfl rfl ?_
      refine OQ.exU rfl rfl rfl rfl ?_
      refine OQ.exU rfl rfl rfl rfl ?_
      refine OQ.exU rfl rfl rfl rfl ?_
      refine OQ.exU rfl rfl rfl rfl ?_
      refine OQ.exU rfl rfl rfl rfl ?_
      refine OQ.exU rfl rfl rfl rfl ?_
      refine OQ.exU rfl rfl rfl rfl ?_
      refine OQ.exU rfl rfl rfl rfl ?_
      refine OQ.exU rfl rfl rfl rfl ?_
      refine OQ.exU rfl rfl rfl rfl ?_
      refine OQ.exU rfl rfl rfl rfl ?_
      refine OQ.exU rfl rfl rfl rfl ?_
      refine OQ.exU rfl rfl rfl rfl ?_
      refine OQ.exU rfl rfl rfl rfl ?_
      refine OQ.exU rfl rfl rfl rfl ?_
      refine OQ.exF rfl rfl rfl rfl rfl ?_
      refine OQ.ex rfl (fun w H => (Ex.pick_f rfl rfl)) rfl ?_
      refine OQ.done ?_
      refine hK7 _ _ _ ?_
      refine W.cond_f rfl ?_
      refine W.skip ?_
      refine hK6 _ _ _ ?_
      refine W.region ?_
      refine O.ex (Ex.move rfl) rfl ?_
      refine O.ex (by first | exact Ex.addI rfl rfl | exact Ex.add rfl rfl rfl) rfl ?_
      refine O.ex (Ex.assign rfl) rfl ?_
      refine O.nil ?_
      refine ⟨i + 1, ⟨rfl, rfl, rfl, rfl, ?_, rfl, trivial⟩, ⟨rfl, by omega, rfO_open.2 (Holds.to (by assumption))⟩, by omega⟩
      show some (Value.int .i64 _) = some (Value.int .i64 _)
      congr 2
      unfold bst
      first
      | rw [hr.nn hin2 (by simpa using hout)]; exact hb
      | (rw [hr.pg hin2 hin, bI_neg (show bI (bst RI s i) < 0 by rw [← hb]; exact hbn)]; rfl)
      | (obtain ⟨b0, e1, e2⟩ := bI_nn (show ¬ bI (bst RI s i) < 0 by rw [← hb]; exact hbp)
         have hk := (bst_some soI e1).lt
         have e3 : Hp.pg s b0 = P.getD b.toNat default := by
           have := (bst_some soI e1).is
           rw [← hr.at_ b0 _ this, hb, e2]; rfl
         rw [hr.pg hin2 hin, e1]
         dsimp only
         rw [e3]
         first
         | (rw [if_pos (show RI (P.getD i default) (P.getD b.toNat default) from hll)]; rfl)
         | (rw [if_neg (show ¬ RI (P.getD i default) (P.getD b.toNat default) from hnl)]; exact hb.trans e2))
  · refine W.exit ?_
    refine hK2 _ _ _ ?_
    refine W.seq (fun K8 hK8 => ?_)
    refine W.seq (fun K9 hK9 => ?_)
    refine W.region ?_
    obtain rfl : i = s.length := by omega
    refine O.ex (Ex.move rfl) rfl ?_
    refine O.ex (Ex.lss rfl rfl) rfl ?_
    refine O.nil ?_
    refine hK9 _ _ _ ?_
    first | refine W.cond_p rfl (fun hz => ?_) (fun hnz => ?_) | refine W.cond_b rfl (fun hz => ?_) (fun hnz => ?_)
    · refine W.seq (fun K10 hK10 => ?_)
      refine W.region ?_
      refine O.ex (Ex.assign rfl) rfl ?_
      refine O.ex (Ex.assign rfl) rfl ?_
      refine O.ex (Ex.assign rfl) rfl ?_
      refine O.nil ?_
      refine hK10 _ _ _ ?_
      refine W.ret ?_
      try dsimp only [thenQ, blockQ, retQ]
      first | refine ⟨_, ⟨_, _, rfl, rfl, _, _, rfl, rfl, _, _, rfl, rfl, rfl⟩, ?_⟩ | (refine retD_mark ?_; intro w H; refine ⟨_, ⟨_, _, rfl, rfl, _, _, rfl, rfl, _, _, rfl, rfl, rfl⟩, ?_⟩) | (refine retD_mark2 ?_; intro w H; refine ⟨_, ⟨_, _, rfl, rfl, _, _, rfl, rfl, _, _, rfl, rfl, rfl⟩, ?_⟩)
      refine ⟨?_, rf_open.2 ⟨_, _, _, _, hr, rfO_open.2 (Holds.to (by assumption))⟩⟩
      first
      | (have e : bs RI s = none := bI_neg (show bI (bst RI s s.length) < 0 by rw [← hb]; exact hz)
         unfold pkN pkP pkO; rw [e]; rfl)
      | (have e : bs RI s = some b0 := e1
         unfold pkN pkP pkO; rw [e, e4]
         dsimp only
         rw [e3, e4]; rfl)
    · refine W.skip ?_
      refine hK8 _ _ _ ?_
      refine W.seq (fun K11 hK11 => ?_)
      obtain ⟨b0, e1, e2⟩ := bI_nn (show ¬ bI (bst RI s s.length) < 0 by rw [← hb]; exact hnz)
      have e3 : Hp.pg s b0 = P.getD b.toNat default := by
        have := (bst_some soI e1).is
        rw [← hr.at_ b0 _ this, hb, e2]; rfl
      have e4 : b = (b0 : Int) := hb.trans e2
      have s2 := arr_sl (e := Value.int .i64) (v := qv) (xs := P) (Holds.to (by assumption)) (by omega)
      refine W.drawTo _ (.take 0 (.take 1 (.take 2 (.take 3 (.take 4 (.take 5 (.take 6 (.take 7 (.take 8 (.take 9 (.take 10 .nil))))))))))) (mixed) (fun _ _ _ _ h => h) (by assumption) (PP.refl _) (by decide +kernel) (fun w H => ?_)
      refine OQ.ex rfl (fun w H => (Ex.move rfl)) rfl ?_
      refine OQ.ex rfl (fun w H => (Ex.move rfl)) rfl ?_
      refine OQ.ex rfl (fun w H => (by first | exact Ex.nilPtr rfl | exact Ex.nilFunc rfl | exact Ex.nilYield rfl)) rfl ?_
      refine OQ.ex rfl (fun w H => (by first | exact Ex.field0 fld52_1 rfl | exact Ex.field fld52_1 rfl | exact Ex.fieldS fld52_1 rfl)) rfl ?_
      refine OQ.ex rfl (fun w H => (by first | exact Ex.loadP Try.isAgg22 rfl | exact Ex.loadR Try.isAgg22 rfl | exact Ex.loadIn1 Try.isAgg22 rfl (Holds.to (by assumption)))) rfl ?_
      refine OQ.ex rfl (fun w H => (Ex.move rfl)) rfl ?_
      refine OQ.ex rfl (fun w H => (by first | exact Ex.idxR Try.runUnderlying22 Try.sizeOf3 rfl rfl | exact Ex.idxIn Try.runUnderlying22 Try.sizeOf3 rfl rfl | exact Ex.idxS Try.runUnderlying22 Try.sizeOf3 rfl rfl | exact Ex.idx Try.runUnderlying22 Try.sizeOf3 rfl rfl (by omega) (by omega))) rfl ?_
      refine OQ.ex rfl (fun w H => (by first | exact Ex.loadP Try.isAgg3 rfl | exact Ex.loadR Try.isAgg3 rfl | exact Ex.loadIn1 Try.isAgg3 rfl (Holds.to (by assumption)))) rfl ?_
      refine OQ.ex rfl (fun w H => (Ex.assign rfl)) rfl ?_
      refine OQ.ex rfl (fun w H => (Ex.assign rfl)) rfl ?_
      refine OQ.ex rfl (fun w H => (Ex.assign rfl)) rfl ?_
      refine OQ.done ?_
      refine hK11 _ _ _ ?_
      refine W.ret ?_
      try dsimp only [thenQ, blockQ, retQ]
      first | refine ⟨_, ⟨_, _, rfl, rfl, _, _, rfl, rfl, _, _, rfl, rfl, rfl⟩, ?_⟩ | (refine retD_mark ?_; intro w H; refine ⟨_, ⟨_, _, rfl, rfl, _, _, rfl, rfl, _, _, rfl, rfl, rfl⟩, ?_⟩) | (refine retD_mark2 ?_; intro w H; refine ⟨_, ⟨_, _, rfl, rfl, _, _, rfl, rfl, _, _, rfl, rfl, rfl⟩, ?_⟩)
      refine ⟨?_, rf_open.2 ⟨_, _, _, _, hr, rfO_open.2 (Holds.to (by assumption))⟩⟩
      first
      | (have e : bs RI s = none := bI_neg (show bI (bst RI s s.length) < 0 by rw [← hb]; exact hz)
         unfold pkN pkP pkO; rw [e]; rfl)
      | (have e : bs RI s = some b0 := e1
         unfold pkN pkP pkO; rw [e, e4]
         dsimp only
         rw [e3, e4]; rfl)
theorem rfPop_ct {w : World} {r : Nat} {s : List (Option Int)} {L : List HProp} (hl : s.length ≤ 64) (H : Holds w (Rf r s :: L)) :
    CT Try.prog 38 [.pointer (some ⟨r, 0, none⟩)] w fun u w' => u = .tuple #[.int .i64 (pkN RI s : Int), .int .i64 (pkP RI s), .bool (pkO RI s)] ∧ Holds w' (Rf r (popL RI s) :: L) := by
  refine CT.enter (N := 24) Try.func38 rfl rfl rfl rfl ?_
  refine W.seq (fun K0 hK0 => ?_)
  refine W.region ?_
  refine O.ex (Ex.assign rfl) rfl ?_
  refine O.ex (Ex.assign rfl) rfl ?_
  refine O.ex (Ex.assign rfl) rfl ?_
  refine O.nil ?_
  refine hK0 _ _ _ ?_
  refine W.seq (fun K1 hK1 => ?_)
  refine W.region ?_
  refine O.ex (Ex.move rfl) rfl ?_
  refine O.callF Try.call39 rfl rfl (CT.mono (rfPeek_ct hl (Holds.to (by assumption))) ?_)
  rintro _ w ⟨rfl, H⟩
  refine O.ex (Ex.move rfl) rfl ?_
  refine O.ex (Ex.extract rfl rfl) rfl ?_
  refine O.ex (Ex.extract rfl rfl) rfl ?_
  refine O.ex (Ex.extract rfl rfl) rfl ?_
  refine O.ex (Ex.assign rfl) rfl ?_
  refine O.ex (Ex.assign rfl) rfl ?_
  refine O.ex (Ex.assign rfl) rfl ?_
  refine O.nil ?_
  refine hK1 _ _ _ ?_
  refine W.seq (fun K2 hK2 => ?_)
  refine W.seq (fun K3 hK3 => ?_)
  refine W.region ?_
  refine O.ex (Ex.move rfl) rfl ?_
  refine O.nil ?_
  refine hK3 _ _ _ ?_
  first | refine W.cond_p rfl (fun hok => ?_) (fun hno => ?_) | refine W.cond_b rfl (fun hok => ?_) (fun hno => ?_)
  · refine W.region ?_
    obtain ⟨b, e1, e2, -, e4⟩ := pkO_true hok
    have hb : b < s.length := (bst_some soI e1).lt
    obtain ⟨iv, qv, I, P, hr, H⟩ := rf_open.1 (Holds.to (by assumption))
    have H := rfO_open.1 H
    have li := hr.li
    have hbi : pkN RI s < I.length := by omega
    refine O.ex (Ex.move rfl) rfl ?_
    refine O.ex (by first | exact Ex.nilPtr rfl | exact Ex.nilFunc rfl | exact Ex.nilYield rfl) rfl ?_
    refine O.ex (by first | exact Ex.field0 fld52_0 rfl | exact Ex.field fld52_0 rfl | exact Ex.fieldS fld52_0 rfl) rfl ?_
    refine O.ex (by first | exact Ex.loadP Try.isAgg50 rfl | exact Ex.loadR Try.isAgg50 rfl | exact Ex.loadIn1 Try.isAgg50 rfl (Holds.to (by assumption))) rfl ?_
    refine O.ex (Ex.move rfl) rfl ?_
    refine O.ex (by first | exact Ex.idxR Try.runUnderlying50 Try.sizeOf4 rfl rfl | exact Ex.idxIn Try.runUnderlying50 Try.sizeOf4 rfl rfl | exact Ex.idxS Try.runUnderlying50 Try.sizeOf4 rfl rfl | exact Ex.idx Try.runUnderlying50 Try.sizeOf4 rfl rfl (by omega) (by omega)) rfl ?_
    first | refine O.storeP Try.sizeOf4 rfl rfl (fun w H => ?_) | refine O.storeR Try.sizeOf4 rfl rfl (fun w H => ?_)
    refine O.nil ?_
    refine hK2 _ _ _ ?_
    refine W.seq (fun K4 hK4 => ?_)
    refine W.region ?_
    refine O.ex (Ex.move rfl) rfl ?_
    refine O.ex (Ex.move rfl) rfl ?_
    refine O.ex (Ex.move rfl) rfl ?_
    refine O.ex (Ex.assign rfl) rfl ?_
    refine O.ex (Ex.assign rfl) rfl ?_
    refine O.ex (Ex.assign rfl) rfl ?_
    refine O.nil ?_
    refine hK4 _ _ _ ?_
    refine W.ret ?_
    try dsimp only [thenQ, blockQ, retQ]
    first | refine ⟨_, ⟨_, _, rfl, rfl, _, _, rfl, rfl, _, _, rfl, rfl, rfl⟩, ?_⟩ | (refine retD_mark ?_; intro w H; refine ⟨_, ⟨_, _, rfl, rfl, _, _, rfl, rfl, _, _, rfl, rfl, rfl⟩, ?_⟩) | (refine retD_mark2 ?_; intro w H; refine ⟨_, ⟨_, _, rfl, rfl, _, _, rfl, rfl, _, _, rfl, rfl, rfl⟩, ?_⟩)
    refine ⟨rfl, ?_⟩
    first
    | (rw [(pkO_false (by simpa using hno)).2.2.2]; exact Holds.to (by assumption))
    | (rw [e4]
       have H2 : Holds w (RfO r iv qv (I.set (pkN RI s) false) P :: L) := rfO_open.2 (Holds.to (by assumption))
       rw [e2] at H2
       exact rf_open.2 ⟨_, _, _, _, hr.out hb, H2⟩)
  · refine W.skip ?_
    refine hK2 _ _ _ ?_
    refine W.seq (fun K5 hK5 => ?_)
    refine W.region ?_
    refine O.ex (Ex.move rfl) rfl ?_
    refine O.ex (Ex.move rfl) rfl ?_
    refine O.ex (Ex.move rfl) rfl ?_
    refine O.ex (Ex.assign rfl) rfl ?_
    refine O.ex (Ex.assign rfl) rfl ?_
    refine O.ex (Ex.assign rfl) rfl ?_
    refine O.nil ?_
    refine hK5 _ _ _ ?_
    refine W.ret ?_
    try dsimp only [thenQ, blockQ, retQ]
    first | refine ⟨_, ⟨_, _, rfl, rfl, _, _, rfl, rfl, _, _, rfl, rfl, rfl⟩, ?_⟩ | (refine retD_mark ?_; intro w H; refine ⟨_, ⟨_, _, rfl, rfl, _, _, rfl, rfl, _, _, rfl, rfl, rfl⟩, ?_⟩) | (refine retD_mark2 ?_; intro w H; refine ⟨_, ⟨_, _, rfl, rfl, _, _, rfl, rfl, _, _, rfl, rfl, rfl⟩, ?_⟩)
    refine ⟨rfl, ?_⟩
    first
    | (rw [(pkO_false (by simpa using hno)).2.2.2]; exact Holds.to (by assumption))
    | (rw [e4]
       have H2 : Holds w (RfO r iv qv (I.set (pkN RI s) false) P :: L) := rfO_open.2 (Holds.to (by assumption))
       rw [e2] at H2
       exact rf_open.2 ⟨_, _, _, _, hr.out hb, H2⟩)
theorem lenT (s : List (Option Int)) (i : Nat) (h : i < s.length) : lenS (s.take (i + 1)) = lenS (s.take i) + if (sg s i).isSome = true then 1 else 0 := by
  unfold lenS
  rw [List.take_succ_eq_append_getElem h, List.filter_append, List.length_append]
  have e : sg s i = s[i] := by unfold sg; rw [List.getD_eq_getElem?_getD, List.getElem?_eq_getElem h]; rfl
  rw [e, List.filter_cons]
  split <;> rfl
theorem rfLen_ct {w : World} {r : Nat} {s : List (Option Int)} {L : List HProp} (hl : s.length ≤ 64) (H : Holds w (Rf r s :: L)) :
    CT Try.prog 42 [.pointer (some ⟨r, 0, none⟩)] w fun u w' => u = .int .i64 (lenS s : Int) ∧ Holds w' (Rf r s :: L) := by
  obtain ⟨iv, qv, I, P, hr, H⟩ := rf_open.1 H
  have H := rfO_open.1 H
  have li := hr.li
  refine CT.enter (N := 24) Try.func42 rfl rfl rfl rfl ?_
  refine W.seq (fun K0 hK0 => ?_)
  refine W.region ?_
  refine O.ex (Ex.assign rfl) rfl ?_
  refine O.nil ?_
  refine hK0 _ _ _ ?_
  refine W.seq (fun K1 hK1 => ?_)
  refine W.region ?_
  refine O.ex (Ex.assign rfl) rfl ?_
  refine O.nil ?_
  refine hK1 _ _ _ ?_
  refine W.seq (fun K2 hK2 => ?_)
  refine W.seq (fun K3 hK3 => ?_)
  refine W.region ?_
  refine O.ex (Ex.assign rfl) rfl ?_
  refine O.nil ?_
  refine hK3 _ _ _ ?_
  refine W.block ?_
  have H := rfO_open.2 (Holds.to (by assumption))
  refine W.loop (σ := Nat) (fun i => [(0, .pointer (some ⟨r, 0, none⟩)), (2, .int .i64 0), (3, .int .i64 (lenS (s.take i) : Int)), (4, .int .i64 (i : Int))]) (fun i ds w => ds = [] ∧ i ≤ s.length ∧ Holds w (RfO r iv qv I P :: L)) (fun i => s.length - i) 0 ⟨rfl, rfl, rfl, rfl, trivial⟩ ⟨rfl, by omega, H⟩ ?_
  clear H
  rintro i _ w ⟨rfl, hi, H⟩
  have H := rfO_open.1 H
  have hln : lenS (s.take i) ≤ i := by
    have h1 : lenS (s.take i) ≤ (s.take i).length := List.length_filter_le _ _
    rw [List.length_take] at h1; omega
  refine W.seq (fun K4 hK4 => ?_)
  refine W.seq (fun K5 hK5 => ?_)
  refine W.region ?_
  refine O.ex (Ex.move rfl) rfl ?_
  refine O.ex (Ex.move rfl) rfl ?_
  refine O.ex (by first | exact Ex.nilPtr rfl | exact Ex.nilFunc rfl | exact Ex.nilYield rfl) rfl ?_
  refine O.ex (by first | exact Ex.field0 fld52_0 rfl | exact Ex.field fld52_0 rfl | exact Ex.fieldS fld52_0 rfl) rfl ?_
  refine O.ex (by first | exact Ex.loadP Try.isAgg50 rfl | exact Ex.loadR Try.isAgg50 rfl | exact Ex.loadIn1 Try.isAgg50 rfl (Holds.to (by assumption))) rfl ?_
  refine O.ex (by first | exact Ex.lenR Try.runUnderlying50 rfl | exact Ex.lenIn Try.runUnderlying50 rfl | exact Ex.lenL Try.runUnderlying50 rfl | exact Ex.len rfl Try.runUnderlying50 rfl) rfl ?_
  refine O.ex (Ex.lss rfl rfl) rfl ?_
  refine O.nil ?_
  refine hK5 _ _ _ ?_
  first | refine W.cond_p rfl (fun hlt => ?_) (fun hge => ?_) | refine W.cond_b rfl (fun hlt => ?_) (fun hge => ?_)
  · refine W.skip ?_
    refine hK4 _ _ _ ?_
    refine W.seq (fun K6 hK6 => ?_)
    refine W.block ?_
    refine W.seq (fun K7 hK7 => ?_)
    refine W.region ?_
    refine O.ex (Ex.move rfl) rfl ?_
    refine O.ex (by first | exact Ex.nilPtr rfl | exact Ex.nilFunc rfl | exact Ex.nilYield rfl) rfl ?_
    refine O.ex (by first | exact Ex.field0 fld52_0 rfl | exact Ex.field fld52_0 rfl | exact Ex.fieldS fld52_0 rfl) rfl ?_
    refine O.ex (by first | exact Ex.loadP Try.isAgg50 rfl | exact Ex.loadR Try.isAgg50 rfl | exact Ex.loadIn1 Try.isAgg50 rfl (Holds.to (by assumption))) rfl ?_
    refine O.ex (Ex.move rfl) rfl ?_
    refine O.ex (by first | exact Ex.idxR Try.runUnderlying50 Try.sizeOf4 rfl rfl | exact Ex.idxIn Try.runUnderlying50 Try.sizeOf4 rfl rfl | exact Ex.idxS Try.runUnderlying50 Try.sizeOf4 rfl rfl | exact Ex.idx Try.runUnderlying50 Try.sizeOf4 rfl rfl (by omega) (by omega)) rfl ?_
    refine O.ex (by first | exact Ex.loadP Try.isAgg4 rfl | exact Ex.loadR Try.isAgg4 rfl | exact Ex.loadIn1 Try.isAgg4 rfl (Holds.to (by assumption))) rfl ?_
    refine O.nil ?_
    refine hK7 _ _ _ ?_
    first | refine W.cond_p rfl (fun hin => ?_) (fun hout => ?_) | refine W.cond_b rfl (fun hin => ?_) (fun hout => ?_)
    · refine W.region ?_
      refine O.ex (Ex.move rfl) rfl ?_
      refine O.ex (by first | exact Ex.addI rfl rfl | exact Ex.add rfl rfl rfl) rfl ?_
      refine O.ex (Ex.assign rfl) rfl ?_
      refine O.nil ?_
      refine hK6 _ _ _ ?_
      refine W.region ?_
      refine O.ex (Ex.move rfl) rfl ?_
      refine O.ex (by first | exact Ex.addI rfl rfl | exact Ex.add rfl rfl rfl) rfl ?_
      refine O.ex (Ex.assign rfl) rfl ?_
      refine O.nil ?_
      have hin2 : i < s.length := by omega
      refine ⟨i + 1, ⟨rfl, rfl, ?_, rfl, trivial⟩, ⟨rfl, by omega, rfO_open.2 (Holds.to (by assumption))⟩, by omega⟩
      show some (Value.int .i64 _) = some (Value.int .i64 _)
      congr 2
      rw [lenT s i hin2]
      first
      | (rw [hr.pg hin2 hin]; simp)
      | (rw [hr.nn hin2 (by simpa using hout)]; simp)
    · refine W.skip ?_
      refine hK6 _ _ _ ?_
      refine W.region ?_
      refine O.ex (Ex.move rfl) rfl ?_
      refine O.ex (by first | exact Ex.addI rfl rfl | exact Ex.add rfl rfl rfl) rfl ?_
      refine O.ex (Ex.assign rfl) rfl ?_
      refine O.nil ?_
      have hin2 : i < s.length := by omega
      refine ⟨i + 1, ⟨rfl, rfl, ?_, rfl, trivial⟩, ⟨rfl, by omega, rfO_open.2 (Holds.to (by assumption))⟩, by omega⟩
      show some (Value.int .i64 _) = some (Value.int .i64 _)
      congr 2
      rw [lenT s i hin2]
      first
      | (rw [hr.pg hin2 hin]; simp)
      | (rw [hr.nn hin2 (by simpa using hout)]; simp)
  · refine W.exit ?_
    refine hK2 _ _ _ ?_
    refine W.seq (fun K8 hK8 => ?_)
    refine W.region ?_
    refine O.ex (Ex.move rfl) rfl ?_
    refine O.ex (Ex.assign rfl) rfl ?_
    refine O.nil ?_
    refine hK8 _ _ _ ?_
    refine W.ret ?_
    try dsimp only [thenQ, blockQ, retQ]
    first | refine ⟨_, ⟨_, _, rfl, rfl, rfl⟩, ?_⟩ | (refine retD_mark ?_; intro w H; refine ⟨_, ⟨_, _, rfl, rfl, rfl⟩, ?_⟩) | (refine retD_mark2 ?_; intro w H; refine ⟨_, ⟨_, _, rfl, rfl, rfl⟩, ?_⟩)
    obtain rfl : i = s.length := by omega
    rw [List.take_length]
    exact ⟨rfl, rf_open.2 ⟨_, _, _, _, hr, rfO_open.2 (Holds.to (by assumption))⟩⟩
theorem awake04_ct {w : World} {L : List HProp} (H : Holds w L) :
    CT Try.prog 26 [] w fun u w' => u = .bool true ∧ Holds w' L := by
  refine CT.enter (N := 104) Try.func26 rfl rfl rfl rfl ?_
  refine W.seq (fun K0 hK0 => ?_)
  refine W.region ?_
  refine O.ex (Ex.assign rfl) rfl ?_
  refine O.nil ?_
  refine hK0 _ _ _ ?_
  refine W.seq (fun K1 hK1 => ?_)
  refine W.region ?_
  refine O.callF Try.call27 rfl rfl (CT.mono (newIH_ct (n := 3) (Holds.to (by assumption))) ?_)
  rintro _ w (⟨hx, -⟩ | ⟨-, h, rfl, H⟩)
  · exact absurd (by omega) hx
  have H : Holds w (HqI h [none, none, none] :: L) := H
  refine O.ex (Ex.move rfl) rfl ?_
  refine O.ex (Ex.extract rfl rfl) rfl ?_
  refine O.ex (Ex.extract rfl rfl) rfl ?_
  refine O.ex (Ex.assign rfl) rfl ?_
  refine O.ex (Ex.assign rfl) rfl ?_
  refine O.nil ?_
  refine hK1 _ _ _ ?_
  refine W.seq (fun K2 hK2 => ?_)
  refine W.region ?_
  refine O.callF Try.call27 rfl rfl (CT.mono (newIH_ct (n := 65) (Holds.to (by assumption))) ?_)
  rintro _ w (⟨-, rfl, H⟩ | ⟨hx, -⟩)
  rotate_left
  · exact absurd hx (by omega)
  refine O.ex (Ex.move rfl) rfl ?_
  refine O.ex (Ex.extract rfl rfl) rfl ?_
  refine O.ex (Ex.extract rfl rfl) rfl ?_
  refine O.ex (Ex.assign rfl) rfl ?_
  refine O.ex (Ex.assign rfl) rfl ?_
  refine O.nil ?_
  refine hK2 _ _ _ ?_
  refine W.seq (fun K3 hK3 => ?_)
  refine W.seq (fun K4 hK4 => ?_)
  refine W.region ?_
  refine O.ex (Ex.move rfl) rfl ?_
  refine O.ex (Ex.nilEq Try.runUnderlying42 rfl rfl) rfl ?_
  refine O.ex (Ex.move rfl) rfl ?_
  refine O.known (t := 27) (c := false) rfl (by first | rfl | decide) ?_
  refine O.guard_t rfl rfl ?_
  refine O.ex (Ex.move rfl) rfl ?_
  refine O.guard_t rfl rfl ?_
  refine O.ex (Ex.neqI rfl rfl) rfl ?_
  refine O.ex (Ex.pick_f rfl rfl) rfl ?_
  refine O.ex (Ex.move rfl) rfl ?_
  refine O.known (t := 31) (c := false) rfl (by first | rfl | decide) ?_
  refine O.guard_t rfl rfl ?_
  refine O.ex (Ex.move rfl) rfl ?_
  refine O.guard_t rfl rfl ?_
  refine O.ex (Ex.neqI rfl rfl) rfl ?_
  refine O.ex (Ex.pick_f rfl rfl) rfl ?_
  refine O.nil ?_
  refine hK4 _ _ _ ?_
  refine W.known_f rfl (by first | rfl | decide) ?_
  refine W.skip ?_
  refine hK3 _ _ _ ?_
  refine W.seq (fun K5 hK5 => ?_)
  refine W.region ?_
  refine O.ex (Ex.move rfl) rfl ?_
  refine O.callF Try.call29 rfl rfl (CT.mono (putIH_ct (Holds.to (by assumption))) ?_)
  rintro _ w ⟨-, H⟩
  rw [show putL RI [none, none, none] 2 5 = [none, none, some 5] by decide] at H
  refine O.nil ?_
  refine hK5 _ _ _ ?_
  refine W.seq (fun K6 hK6 => ?_)
  refine W.region ?_
  refine O.ex (Ex.move rfl) rfl ?_
  refine O.callF Try.call29 rfl rfl (CT.mono (putIH_ct (Holds.to (by assumption))) ?_)
  rintro _ w ⟨-, H⟩
  rw [show putL RI [none, none, some 5] 0 5 = [some 5, none, some 5] by decide] at H
  refine O.nil ?_
  refine hK6 _ _ _ ?_
  refine W.seq (fun K7 hK7 => ?_)
  refine W.region ?_
  refine O.ex (Ex.move rfl) rfl ?_
  refine O.callF Try.call29 rfl rfl (CT.mono (putIH_ct (Holds.to (by assumption))) ?_)
  rintro _ w ⟨-, H⟩
  rw [show putL RI [some 5, none, some 5] 1 9 = [some 5, some 9, some 5] by decide] at H
  refine O.nil ?_
  refine hK7 _ _ _ ?_
  refine W.seq (fun K8 hK8 => ?_)
  refine W.seq (fun K9 hK9 => ?_)
  refine W.region ?_
  refine O.ex (Ex.move rfl) rfl ?_
  refine O.callF Try.call29 rfl rfl (CT.mono (putIH_ct (Holds.to (by assumption))) ?_)
  rintro _ w ⟨rfl, H⟩
  rw [show putL RI [some 5, some 9, some 5] 1 9 = [some 5, some 9, some 5] by decide] at H
  refine O.ex (Ex.neqI rfl rfl) rfl ?_
  refine O.ex (Ex.move rfl) rfl ?_
  refine O.known (t := 44) (c := false) rfl (by first | rfl | decide) ?_
  refine O.guard_t rfl rfl ?_
  refine O.ex (Ex.move rfl) rfl ?_
  refine O.guard_t rfl rfl ?_
  refine O.callF Try.call29 rfl rfl (CT.mono (putIH_ct (Holds.to (by assumption))) ?_)
  rintro _ w ⟨rfl, H⟩
  rw [show putL RI [some 5, some 9, some 5] 1 4 = [some 5, some 4, some 5] by decide] at H
  refine O.guard_t rfl rfl ?_
  refine O.ex (Ex.neqI rfl rfl) rfl ?_
  refine O.ex (Ex.pick_f rfl rfl) rfl ?_
  refine O.ex (Ex.move rfl) rfl ?_
  refine O.known (t := 49) (c := false) rfl (by first | rfl | decide) ?_
  refine O.guard_t rfl rfl ?_
  refine O.ex (Ex.move rfl) rfl ?_
  refine O.guard_t rfl rfl ?_
  refine O.callF Try.call29 rfl rfl (CT.mono (putIH_ct (Holds.to (by assumption))) ?_)
  rintro _ w ⟨rfl, H⟩
  rw [show putL RI [some 5, some 4, some 5] 3 1 = [some 5, some 4, some 5] by decide] at H
  refine O.guard_t rfl rfl ?_
  refine O.ex (Ex.neqI rfl rfl) rfl ?_
  refine O.ex (Ex.pick_f rfl rfl) rfl ?_
  refine O.nil ?_
  refine hK9 _ _ _ ?_
  refine W.known_f rfl (by first | rfl | decide) ?_
  refine W.skip ?_
  refine hK8 _ _ _ ?_
  refine W.seq (fun K10 hK10 => ?_)
  refine W.region ?_
  refine O.ex (Ex.move rfl) rfl ?_
  refine O.callF Try.call31 rfl rfl (CT.mono (popI1_ct (Holds.to (by assumption))) ?_)
  rintro _ w ⟨rfl, H⟩
  rw [show popL RI [some 5, some 4, some 5] = [some 5, none, some 5] by decide] at H
  refine O.ex (Ex.move rfl) rfl ?_
  refine O.ex (Ex.extract rfl rfl) rfl ?_
  refine O.ex (Ex.extract rfl rfl) rfl ?_
  refine O.ex (Ex.extract rfl rfl) rfl ?_
  refine O.ex (Ex.assign rfl) rfl ?_
  refine O.ex (Ex.assign rfl) rfl ?_
  refine O.ex (Ex.assign rfl) rfl ?_
  refine O.nil ?_
  refine hK10 _ _ _ ?_
  refine W.seq (fun K11 hK11 => ?_)
  refine W.region ?_
  refine O.ex (Ex.move rfl) rfl ?_
  refine O.callF Try.call31 rfl rfl (CT.mono (popI1_ct (Holds.to (by assumption))) ?_)
  rintro _ w ⟨rfl, H⟩
  rw [show popL RI [some 5, none, some 5] = [none, none, some 5] by decide] at H
  refine O.ex (Ex.move rfl) rfl ?_
  refine O.ex (Ex.extract rfl rfl) rfl ?_
  refine O.ex (Ex.extract rfl rfl) rfl ?_
  refine O.ex (Ex.extract rfl rfl) rfl ?_
  refine O.ex (Ex.assign rfl) rfl ?_
  refine O.ex (Ex.assign rfl) rfl ?_
  refine O.ex (Ex.assign rfl) rfl ?_
  refine O.nil ?_
  refine hK11 _ _ _ ?_
  refine W.seq (fun K12 hK12 => ?_)
  refine W.region ?_
  refine O.ex (Ex.move rfl) rfl ?_
  refine O.callF Try.call31 rfl rfl (CT.mono (popI1_ct (Holds.to (by assumption))) ?_)
  rintro _ w ⟨rfl, H⟩
  rw [show popL RI [none, none, some 5] = [none, none, none] by decide] at H
  refine O.ex (Ex.move rfl) rfl ?_
  refine O.ex (Ex.extract rfl rfl) rfl ?_
  refine O.ex (Ex.extract rfl rfl) rfl ?_
  refine O.ex (Ex.extract rfl rfl) rfl ?_
  refine O.ex (Ex.assign rfl) rfl ?_
  refine O.ex (Ex.assign rfl) rfl ?_
  refine O.ex (Ex.assign rfl) rfl ?_
  refine O.nil ?_
  refine hK12 _ _ _ ?_
  refine W.seq (fun K13 hK13 => ?_)
  refine W.region ?_
  refine O.ex (Ex.move rfl) rfl ?_
  refine O.callF Try.call31 rfl rfl (CT.mono (popI1_ct (Holds.to (by assumption))) ?_)
  rintro _ w ⟨rfl, H⟩
  rw [show popL RI [none, none, none] = [none, none, none] by decide] at H
  refine O.ex (Ex.move rfl) rfl ?_
  refine O.ex (Ex.extract rfl rfl) rfl ?_
  refine O.ex (Ex.extract rfl rfl) rfl ?_
  refine O.ex (Ex.extract rfl rfl) rfl ?_
  refine O.ex (Ex.assign rfl) rfl ?_
  refine O.ex (Ex.assign rfl) rfl ?_
  refine O.ex (Ex.assign rfl) rfl ?_
  refine O.nil ?_
  refine hK13 _ _ _ ?_
  refine W.seq (fun K14 hK14 => ?_)
  refine W.region ?_
  refine O.ex (Ex.move rfl) rfl ?_
  refine O.ex (Ex.eqlI rfl rfl) rfl ?_
  refine O.ex (Ex.move rfl) rfl ?_
  refine O.known (t := 80) (c := true) rfl (by first | rfl | decide) ?_
  refine O.guard_t rfl rfl ?_
  refine O.ex (Ex.move rfl) rfl ?_
  refine O.guard_t rfl rfl ?_
  refine O.ex (Ex.eqlI rfl rfl) rfl ?_
  refine O.ex (Ex.pick_t rfl rfl) rfl ?_
  refine O.ex (Ex.move rfl) rfl ?_
  refine O.known (t := 84) (c := true) rfl (by first | rfl | decide) ?_
  refine O.guard_t rfl rfl ?_
  refine O.ex (Ex.move rfl) rfl ?_
  refine O.ex (Ex.pick_t rfl rfl) rfl ?_
  refine O.ex (Ex.move rfl) rfl ?_
  refine O.known (t := 87) (c := true) rfl (by first | rfl | decide) ?_
  refine O.guard_t rfl rfl ?_
  refine O.ex (Ex.move rfl) rfl ?_
  refine O.guard_t rfl rfl ?_
  refine O.ex (Ex.eqlI rfl rfl) rfl ?_
  refine O.ex (Ex.pick_t rfl rfl) rfl ?_
  refine O.ex (Ex.move rfl) rfl ?_
  refine O.known (t := 91) (c := true) rfl (by first | rfl | decide) ?_
  refine O.guard_t rfl rfl ?_
  refine O.ex (Ex.move rfl) rfl ?_
  refine O.guard_t rfl rfl ?_
  refine O.ex (Ex.eqlI rfl rfl) rfl ?_
  refine O.ex (Ex.pick_t rfl rfl) rfl ?_
  refine O.ex (Ex.move rfl) rfl ?_
  refine O.known (t := 95) (c := true) rfl (by first | rfl | decide) ?_
  refine O.guard_t rfl rfl ?_
  refine O.ex (Ex.move rfl) rfl ?_
  refine O.guard_t rfl rfl ?_
  refine O.ex (by first | exact Ex.notD rfl | exact Ex.not rfl) rfl ?_
  refine O.ex (Ex.pick_t rfl rfl) rfl ?_
  refine O.ex (Ex.move rfl) rfl ?_
  refine O.known (t := 99) (c := true) rfl (by first | rfl | decide) ?_
  refine O.guard_t rfl rfl ?_
  refine O.ex (Ex.move rfl) rfl ?_
  refine O.guard_t rfl rfl ?_
  refine O.callF Try.call37 rfl rfl (CT.mono (lenIH_ct (Holds.to (by assumption))) ?_)
  rintro _ w ⟨rfl, H⟩
  refine O.guard_t rfl rfl ?_
  refine O.ex (Ex.eqlI rfl rfl) rfl ?_
  refine O.ex (Ex.pick_t rfl rfl) rfl ?_
  refine O.ex (Ex.assign rfl) rfl ?_
  refine O.nil ?_
  refine hK14 _ _ _ ?_
  refine W.ret ?_
  try dsimp only [thenQ, blockQ, retQ]
  first | refine ⟨_, ⟨_, _, rfl, rfl, rfl⟩, ?_⟩ | (refine retD_mark ?_; intro w H; refine ⟨_, ⟨_, _, rfl, rfl, rfl⟩, ?_⟩) | (refine retD_mark2 ?_; intro w H; refine ⟨_, ⟨_, _, rfl, rfl, rfl⟩, ?_⟩)
  exact ⟨by first | rfl | exact congrArg Value.bool (by decide), Holds.to (by assumption)⟩
end Go.Proofs.Ythpmohkmjfhmmaa
