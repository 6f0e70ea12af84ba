import Derived.Test.YtliofdfhimmjmaaFacts
import Derived.Test.YtliofdfhimmjmaaRrBits
import Derived.Test.YtliofdfhimmjmaaRrBase
import Derived.Test.YtliofdfhimmjmaaHeapBest
import Derived.Test.YtliofdfhimmjmaaRrStr
namespace Go.Proofs.Ytliofdfhimmjmaa
open Go.Rr Go Hp
set_option linter.unusedVariables false
abbrev eN : Nat → Value := fun x => .int .i64 (x : Int)
abbrev RI : Int → Int → Prop := fun a b => a < b
theorem soI : SO RI := ⟨fun a => by unfold RI; omega, fun a b c => by unfold RI; omega, fun a b => by unfold RI; omega⟩
theorem soS : SO LtS := ⟨LtS.irr, fun a b c => LtS.tr, LtS.tri⟩
def cmpR {α : Type} (R : α → α → Prop) [DecidableRel R] (a b : α) : Int := if R a b then -1 else if R b a then 1 else 0
theorem isNaNI_ct {w : World} {a : Int} {L : List HProp} (H : Holds w L) : CT Try.prog 114 [.int .i64 a] w fun u w' => u = .bool false ∧ Holds w' L := by
  refine CT.enter (N := 6) Try.func114 rfl rfl rfl rfl ?_
  refine W.seq (fun K0 hK0 => ?_)
  refine W.region ?_
  refine O.ex (Ex.assign rfl) rfl ?_
  refine O.nil ?_
  refine hK0 _ _ _ ?_
  refine W.seq (fun K1 hK1 => ?_)
  refine W.region ?_
  refine O.ex (Ex.move rfl) rfl ?_
  refine O.ex (Ex.move rfl) rfl ?_
  refine O.ex (Ex.neqI rfl rfl) rfl ?_
  refine O.ex (Ex.assign rfl) rfl ?_
  refine O.nil ?_
  refine hK1 _ _ _ ?_
  refine W.ret ?_
  try dsimp only [thenQ, blockQ, retQ]
  first | refine ⟨_, ⟨_, _, rfl, rfl, rfl⟩, ?_⟩ | (refine retD_mark ?_; intro w H; refine ⟨_, ⟨_, _, rfl, rfl, rfl⟩, ?_⟩) | (refine retD_mark2 ?_; intro w H; refine ⟨_, ⟨_, _, rfl, rfl, rfl⟩, ?_⟩)
  exact ⟨congrArg Value.bool (decide_eq_false fun h => h rfl), Holds.to (by assumption)⟩
theorem compareI_ct {w : World} {a b : Int} {L : List HProp} (H : Holds w L) : CT Try.prog 117 [.int .i64 a, .int .i64 b] w fun u w' => u = .int .i64 (cmpR RI a b) ∧ Holds w' L := by
  refine CT.enter (N := 20) Try.func117 rfl rfl rfl rfl ?_
  refine W.seq (fun K0 hK0 => ?_)
  refine W.region ?_
  refine O.ex (Ex.assign rfl) rfl ?_
  refine O.nil ?_
  refine hK0 _ _ _ ?_
  refine W.seq (fun K1 hK1 => ?_)
  refine W.region ?_
  refine O.ex (Ex.move rfl) rfl ?_
  refine O.callF Try.call114 rfl rfl (CT.mono (isNaNI_ct (Holds.to (by assumption))) ?_)
  rintro _ w ⟨rfl, H⟩
  refine O.ex (Ex.assign rfl) rfl ?_
  refine O.nil ?_
  refine hK1 _ _ _ ?_
  refine W.seq (fun K2 hK2 => ?_)
  refine W.region ?_
  refine O.ex (Ex.move rfl) rfl ?_
  refine O.callF Try.call114 rfl rfl (CT.mono (isNaNI_ct (Holds.to (by assumption))) ?_)
  rintro _ w ⟨rfl, H⟩
  refine O.ex (Ex.assign rfl) rfl ?_
  refine O.nil ?_
  refine hK2 _ _ _ ?_
  refine W.seq (fun K3 hK3 => ?_)
  refine W.seq (fun K4 hK4 => ?_)
  refine W.region ?_
  refine O.ex (Ex.move rfl) rfl ?_
  refine O.nil ?_
  refine hK4 _ _ _ ?_
  refine W.known_f rfl (by first | rfl | decide | (simp; done) | omega) ?_
  refine W.skip ?_
  refine hK3 _ _ _ ?_
  refine W.seq (fun K5 hK5 => ?_)
  refine W.seq (fun K6 hK6 => ?_)
  refine W.region ?_
  refine O.ex (Ex.move rfl) rfl ?_
  refine O.nil ?_
  refine hK6 _ _ _ ?_
  refine W.known_f rfl (by first | rfl | decide | (simp; done) | omega) ?_
  refine W.skip ?_
  refine hK5 _ _ _ ?_
  refine W.seq (fun K7 hK7 => ?_)
  refine W.seq (fun K8 hK8 => ?_)
  refine W.region ?_
  refine O.ex (Ex.move rfl) rfl ?_
  refine O.ex (Ex.move rfl) rfl ?_
  refine O.ex (Ex.lss rfl rfl) rfl ?_
  refine O.nil ?_
  refine hK8 _ _ _ ?_
  first | refine W.cond_p rfl (fun h0 => ?_) (fun h0 => ?_) | refine W.cond_b rfl (fun h0 => ?_) (fun h0 => ?_)
  · refine W.seq (fun K9 hK9 => ?_)
    refine W.region ?_
    refine O.ex (Ex.assign rfl) rfl ?_
    refine O.nil ?_
    refine hK9 _ _ _ ?_
    refine W.ret ?_
    try dsimp only [thenQ, blockQ, retQ]
    first | refine ⟨_, ⟨_, _, rfl, rfl, rfl⟩, ?_⟩ | (refine retD_mark ?_; intro w H; refine ⟨_, ⟨_, _, rfl, rfl, rfl⟩, ?_⟩) | (refine retD_mark2 ?_; intro w H; refine ⟨_, ⟨_, _, rfl, rfl, rfl⟩, ?_⟩)
    refine ⟨congrArg (Value.int .i64) ?_, Holds.to (by assumption)⟩
    unfold cmpR
    first
    | rw [if_pos h0]
    | rw [if_neg h0, if_pos h1]
    | rw [if_neg h0, if_neg h1]
  · refine W.skip ?_
    refine hK7 _ _ _ ?_
    refine W.seq (fun K10 hK10 => ?_)
    refine W.seq (fun K11 hK11 => ?_)
    refine W.region ?_
    refine O.ex (Ex.move rfl) rfl ?_
    refine O.ex (Ex.move rfl) rfl ?_
    refine O.ex (Ex.gtr rfl rfl) rfl ?_
    refine O.nil ?_
    refine hK11 _ _ _ ?_
    first | refine W.cond_p rfl (fun h1 => ?_) (fun h1 => ?_) | refine W.cond_b rfl (fun h1 => ?_) (fun h1 => ?_)
    · refine W.seq (fun K12 hK12 => ?_)
      refine W.region ?_
      refine O.ex (Ex.assign rfl) rfl ?_
      refine O.nil ?_
      refine hK12 _ _ _ ?_
      refine W.ret ?_
      try dsimp only [thenQ, blockQ, retQ]
      first | refine ⟨_, ⟨_, _, rfl, rfl, rfl⟩, ?_⟩ | (refine retD_mark ?_; intro w H; refine ⟨_, ⟨_, _, rfl, rfl, rfl⟩, ?_⟩) | (refine retD_mark2 ?_; intro w H; refine ⟨_, ⟨_, _, rfl, rfl, rfl⟩, ?_⟩)
      refine ⟨congrArg (Value.int .i64) ?_, Holds.to (by assumption)⟩
      unfold cmpR
      first
      | rw [if_pos h0]
      | rw [if_neg h0, if_pos h1]
      | rw [if_neg h0, if_neg h1]
    · refine W.skip ?_
      refine hK10 _ _ _ ?_
      refine W.seq (fun K13 hK13 => ?_)
      refine W.region ?_
      refine O.ex (Ex.assign rfl) rfl ?_
      refine O.nil ?_
      refine hK13 _ _ _ ?_
      refine W.ret ?_
      try dsimp only [thenQ, blockQ, retQ]
      first | refine ⟨_, ⟨_, _, rfl, rfl, rfl⟩, ?_⟩ | (refine retD_mark ?_; intro w H; refine ⟨_, ⟨_, _, rfl, rfl, rfl⟩, ?_⟩) | (refine retD_mark2 ?_; intro w H; refine ⟨_, ⟨_, _, rfl, rfl, rfl⟩, ?_⟩)
      refine ⟨congrArg (Value.int .i64) ?_, Holds.to (by assumption)⟩
      unfold cmpR
      first
      | rw [if_pos h0]
      | rw [if_neg h0, if_pos h1]
      | rw [if_neg h0, if_neg h1]
theorem or_ct {w : World} {v : Value} {a b : Int} {L : List HProp} (H : Holds w (arr 3 (Value.int .i64) v [a, b] :: L)) : CT Try.prog 116 [v] w fun u w' => u = .int .i64 (if a ≠ 0 then a else b) ∧ Holds w' L := by
  refine CT.enter (N := 18) Try.func116 rfl rfl rfl rfl ?_
  refine W.seq (fun K0 hK0 => ?_)
  refine W.region ?_
  refine O.ex (Ex.assign rfl) rfl ?_
  refine O.nil ?_
  refine hK0 _ _ _ ?_
  refine W.seq (fun K1 hK1 => ?_)
  refine W.region ?_
  refine O.ex (Ex.assign rfl) rfl ?_
  refine O.nil ?_
  refine hK1 _ _ _ ?_
  refine W.seq (fun K2 hK2 => ?_)
  refine W.seq (fun K3 hK3 => ?_)
  refine W.region ?_
  refine O.ex (Ex.move rfl) rfl ?_
  refine O.ex (by first | exact Ex.lenR Try.runUnderlying28 rfl | exact Ex.lenIn Try.runUnderlying28 rfl | exact Ex.lenL Try.runUnderlying28 rfl | exact Ex.len rfl Try.runUnderlying28 rfl) rfl ?_
  refine O.ex (Ex.move rfl) rfl ?_
  refine O.nil ?_
  refine hK3 _ _ _ ?_
  refine W.block ?_
  refine W.loop (σ := Nat) (fun i => [(3, .int .i64 0), (6, v), (7, .int .i64 ((2 : Nat) : Int)), (8, .int .i64 (i : Int))]) (fun i ds w => ds = [] ∧ i ≤ 2 ∧ (0 < i → a = 0) ∧ (1 < i → b = 0) ∧ Holds w (arr 3 (Value.int .i64) v [a, b] :: L)) (fun i => 2 - i) 0 ⟨rfl, rfl, rfl, rfl, trivial⟩ ⟨rfl, by omega, by omega, by omega, Holds.to (by assumption)⟩ ?_
  clear H
  rintro i _ w ⟨rfl, hi, h0, h1, H⟩
  refine W.seq (fun K4 hK4 => ?_)
  refine W.region ?_
  refine O.ex (Ex.lss rfl rfl) rfl ?_
  refine O.nil ?_
  refine hK4 _ _ _ ?_
  refine W.seq (fun K5 hK5 => ?_)
  first | refine W.cond_p rfl (fun hlt => ?_) (fun hge => ?_) | refine W.cond_b rfl (fun hlt => ?_) (fun hge => ?_)
  · refine W.skip ?_
    refine hK5 _ _ _ ?_
    refine W.seq (fun K6 hK6 => ?_)
    refine W.block ?_
    refine W.seq (fun K7 hK7 => ?_)
    refine W.region ?_
    have hlen : (([a, b] : List Int).length : Int) = 2 := rfl
    have hg : ([a, b] : List Int).getD ((i : Nat) : Int).toNat default = if i = 0 then a else b := by
      obtain rfl | rfl : i = 0 ∨ i = 1 := by omega
      · rfl
      · rfl
    refine O.ex (by first | exact Ex.idxR Try.runUnderlying28 Try.sizeOf3 rfl rfl | exact Ex.idxIn Try.runUnderlying28 Try.sizeOf3 rfl rfl | exact Ex.idxS Try.runUnderlying28 Try.sizeOf3 rfl rfl | exact Ex.idx Try.runUnderlying28 Try.sizeOf3 rfl rfl (by omega) (by omega)) rfl ?_
    refine O.ex (by first | exact Ex.loadP Try.isAgg3 rfl | exact Ex.loadR Try.isAgg3 rfl | exact Ex.loadIn1 Try.isAgg3 rfl (Holds.to (by assumption))) rfl ?_
    rw [hg]
    refine O.ex (Ex.assign rfl) rfl ?_
    refine O.nil ?_
    refine hK7 _ _ _ ?_
    refine W.seq (fun K8 hK8 => ?_)
    refine W.region ?_
    refine O.ex (Ex.move rfl) rfl ?_
    refine O.ex (Ex.move rfl) rfl ?_
    refine O.ex (Ex.neqI rfl rfl) rfl ?_
    refine O.nil ?_
    refine hK8 _ _ _ ?_
    first | refine W.cond_p rfl (fun hz => ?_) (fun hnz => ?_) | refine W.cond_b rfl (fun hz => ?_) (fun hnz => ?_)
    · refine W.seq (fun K9 hK9 => ?_)
      refine W.region ?_
      refine O.ex (Ex.move rfl) rfl ?_
      refine O.ex (Ex.assign rfl) rfl ?_
      refine O.nil ?_
      refine hK9 _ _ _ ?_
      refine W.ret ?_
      try dsimp only [thenQ, blockQ, retQ]
      first | refine ⟨_, ⟨_, _, rfl, rfl, rfl⟩, ?_⟩ | (refine retD_mark ?_; intro w H; refine ⟨_, ⟨_, _, rfl, rfl, rfl⟩, ?_⟩) | (refine retD_mark2 ?_; intro w H; refine ⟨_, ⟨_, _, rfl, rfl, rfl⟩, ?_⟩)
      refine ⟨congrArg (Value.int .i64) ?_, Holds.to (by assumption)⟩
      first
      | (by_cases e : i = 0
         · rw [if_pos e] at hz ⊢; rw [if_pos hz]
         · rw [if_neg e]; have := h0 (by omega); rw [if_neg (by omega)])
      | (obtain rfl : i = 2 := by omega
         have e0 := h0 (by omega); have e1 := h1 (by omega)
         rw [if_neg (by omega)]; omega)
    · refine W.skip ?_
      refine hK6 _ _ _ ?_
      refine W.region ?_
      refine O.ex (by first | exact Ex.addI rfl rfl | exact Ex.add rfl rfl rfl) rfl ?_
      refine O.ex (Ex.move rfl) rfl ?_
      refine O.nil ?_
      refine ⟨i + 1, ⟨rfl, rfl, rfl, rfl, trivial⟩, ⟨rfl, by omega, fun _ => ?_, fun _ => ?_, Holds.to (by assumption)⟩, by omega⟩
      · by_cases e : i = 0
        · rw [if_pos e] at hnz; omega
        · exact h0 (by omega)
      · rw [if_neg (by omega)] at hnz; omega
  · refine W.exit ?_
    refine hK2 _ _ _ ?_
    refine W.seq (fun K10 hK10 => ?_)
    refine W.region ?_
    refine O.ex (Ex.move rfl) rfl ?_
    refine O.ex (Ex.assign rfl) rfl ?_
    refine O.nil ?_
    refine hK10 _ _ _ ?_
    refine W.ret ?_
    try dsimp only [thenQ, blockQ, retQ]
    first | refine ⟨_, ⟨_, _, rfl, rfl, rfl⟩, ?_⟩ | (refine retD_mark ?_; intro w H; refine ⟨_, ⟨_, _, rfl, rfl, rfl⟩, ?_⟩) | (refine retD_mark2 ?_; intro w H; refine ⟨_, ⟨_, _, rfl, rfl, rfl⟩, ?_⟩)
    refine ⟨congrArg (Value.int .i64) ?_, Holds.to (by assumption)⟩
    first
    | (by_cases e : i = 0
       · rw [if_pos e] at hz ⊢; rw [if_pos hz]
       · rw [if_neg e]; have := h0 (by omega); rw [if_neg (by omega)])
    | (obtain rfl : i = 2 := by omega
       have e0 := h0 (by omega); have e1 := h1 (by omega)
       rw [if_neg (by omega)]; omega)
theorem key_cmp {α : Type} [Inhabited α] {R : α → α → Prop} [DecidableRel R] (so : SO R) (pr : List α) (a b : Nat) : ((if cmpR R (pr.getD a default) (pr.getD b default) ≠ 0 then cmpR R (pr.getD a default) (pr.getD b default) else cmpR RI (a : Int) (b : Int)) < 0) ↔ key R (fun x => pr.getD x default) a b := by
  have tri := so.tri (pr.getD a default) (pr.getD b default)
  unfold key cmpR RI
  dsimp only
  rcases tri with h | h | h
  · rw [if_pos h, if_pos (by decide)]
    exact ⟨fun _ => .inl h, fun _ => by decide⟩
  · have i := so.irr (pr.getD b default)
    have e0 : (if R (pr.getD a default) (pr.getD b default) then (-1 : Int) else if R (pr.getD b default) (pr.getD a default) then 1 else 0) = 0 := by rw [h]; simp only [if_neg i]
    rw [e0, if_neg (by decide)]
    constructor
    · intro h1
      refine .inr ⟨h, ?_⟩
      (repeat' split at h1) <;> omega
    · rintro (k | ⟨_, k⟩)
      · rw [h] at k; exact absurd k i
      · rw [if_pos (by omega)]; decide
  · rw [if_neg (so.asy h), if_pos h, if_pos (by decide)]
    constructor
    · intro k; exact absurd k (by decide)
    · rintro (k | ⟨k, _⟩)
      · exact absurd k (so.asy h)
      · rw [k] at h; exact absurd h (so.irr _)
abbrev kI (pr : List Int) : Nat → Nat → Prop := key RI fun x => pr.getD x default
instance {pr : List Int} {a b : Nat} : Decidable (kI pr a b) := by unfold kI key; infer_instance
/-- A heap, its slices named. -/
def HpOI (h : Nat) (tv pv qv : Value) (t : List Nat) (pl : List Int) (pr : List Int) : HProp := star [pt h (.cells #[tv, pv, qv] 126 (0, 0)), arr 3 eN tv t, arr 3 (Value.int .i64) pv pl, arr 3 (Value.int .i64) qv pr]
theorem hpOI_open {w : World} {h : Nat} {tv pv qv : Value} {t : List Nat} {pl : List Int} {pr : List Int} {L : List HProp} : Holds w (HpOI h tv pv qv t pl pr :: L) ↔ Holds w (pt h (.cells #[tv, pv, qv] 126 (0, 0)) :: arr 3 eN tv t :: arr 3 (Value.int .i64) pv pl :: arr 3 (Value.int .i64) qv pr :: L) := by
  unfold HpOI
  simp only [Holds.star, List.cons_append, List.nil_append]
theorem aheadI_ct {w : World} {h : Nat} {tv pv qv : Value} {t : List Nat} {pl : List Int} {pr : List Int} {a b : Nat} {L : List HProp} (ha : a < pr.length) (hb : b < pr.length) (H : Holds w (HpOI h tv pv qv t pl pr :: L)) :
    CT Try.prog 113 [.pointer (some ⟨h, 0, none⟩), .int .i64 (a : Int), .int .i64 (b : Int)] w fun u w' => u = .bool (decide (kI pr a b)) ∧ Holds w' (HpOI h tv pv qv t pl pr :: L) := by
  have H := hpOI_open.1 H
  have ha0 : (0 : Int) ≤ (a : Int) := by omega
  have hb0 : (0 : Int) ≤ (b : Int) := by omega
  refine CT.enter (N := 28) Try.func113 rfl rfl rfl rfl ?_
  refine W.seq (fun K0 hK0 => ?_)
  refine W.region ?_
  refine O.ex (Ex.assign rfl) rfl ?_
  refine O.nil ?_
  refine hK0 _ _ _ ?_
  refine W.seq (fun K1 hK1 => ?_)
  have s3 := arr_sl (e := Value.int .i64) (v := qv) (xs := pr) (Holds.to (by assumption)) (by omega)
  refine W.drawTo _ (.take 0 (.take 1 (.take 2 (.take 3 (.take 4 (.take 5 (.take 6 (.take 7 (.take 8 (.take 9 (.take 10 (.take 11 (.take 12 (.take 13 (.take 15 (.take 16 (.one 14 (.one 17 (.one 18 (.one 19 (.take 20 (.take 21 .nil)))))))))))))))))))))) (mixed) (fun _ _ _ _ h => h) (by assumption) (PP.refl _) (by decide +kernel) (fun w H => ?_)
  refine OQ.ex rfl (fun w H => (Ex.move rfl)) rfl ?_
  refine OQ.ex rfl (fun w H => (by first | exact Ex.nilPtr rfl | exact Ex.nilFunc rfl | exact Ex.nilYield rfl)) rfl ?_
  refine OQ.ex rfl (fun w H => (by first | exact Ex.field0 fld126_2 rfl | exact Ex.field fld126_2 rfl | exact Ex.fieldS fld126_2 rfl)) rfl ?_
  refine OQ.ex rfl (fun w H => (by first | exact Ex.loadP Try.isAgg28 rfl | exact Ex.loadR Try.isAgg28 rfl | exact Ex.loadIn1 Try.isAgg28 rfl (Holds.to (by assumption)))) rfl ?_
  refine OQ.ex rfl (fun w H => (Ex.move rfl)) rfl ?_
  refine OQ.ex rfl (fun w H => (by first | exact Ex.idxR Try.runUnderlying28 Try.sizeOf3 rfl rfl | exact Ex.idxIn Try.runUnderlying28 Try.sizeOf3 rfl rfl | exact Ex.idxS Try.runUnderlying28 Try.sizeOf3 rfl rfl | exact Ex.idx Try.runUnderlying28 Try.sizeOf3 rfl rfl (by omega) (by omega))) rfl ?_
  refine OQ.ex rfl (fun w H => (by first | exact Ex.loadP Try.isAgg3 rfl | exact Ex.loadR Try.isAgg3 rfl | exact Ex.loadIn1 Try.isAgg3 rfl (Holds.to (by assumption)))) rfl ?_
  refine OQ.ex rfl (fun w H => (Ex.move rfl)) rfl ?_
  refine OQ.ex rfl (fun w H => (by first | exact Ex.nilPtr rfl | exact Ex.nilFunc rfl | exact Ex.nilYield rfl)) rfl ?_
  refine OQ.ex rfl (fun w H => (by first | exact Ex.field0 fld126_2 rfl | exact Ex.field fld126_2 rfl | exact Ex.fieldS fld126_2 rfl)) rfl ?_
  refine OQ.ex rfl (fun w H => (by first | exact Ex.loadP Try.isAgg28 rfl | exact Ex.loadR Try.isAgg28 rfl | exact Ex.loadIn1 Try.isAgg28 rfl (Holds.to (by assumption)))) rfl ?_
  refine OQ.ex rfl (fun w H => (Ex.move rfl)) rfl ?_
  refine OQ.ex rfl (fun w H => (by first | exact Ex.idxR Try.runUnderlying28 Try.sizeOf3 rfl rfl | exact Ex.idxIn Try.runUnderlying28 Try.sizeOf3 rfl rfl | exact Ex.idxS Try.runUnderlying28 Try.sizeOf3 rfl rfl | exact Ex.idx Try.runUnderlying28 Try.sizeOf3 rfl rfl (by omega) (by omega))) rfl ?_
  refine OQ.ex rfl (fun w H => (by first | exact Ex.loadP Try.isAgg3 rfl | exact Ex.loadR Try.isAgg3 rfl | exact Ex.loadIn1 Try.isAgg3 rfl (Holds.to (by assumption)))) rfl ?_
  refine OQ.ex rfl (fun w H => (Ex.move rfl)) rfl ?_
  refine OQ.ex rfl (fun w H => (Ex.move rfl)) rfl ?_
  refine OQ.step rfl ?_
  refine O.callF Try.call117 rfl rfl (CT.mono (compareI_ct (Holds.to (by assumption))) ?_)
  rintro _ w ⟨rfl, H⟩
  refine O.thenNil ⟨(by first | exact Holds.to (by assumption) | assumption), ?_⟩
  refine OQ.step rfl ?_
  refine O.callF Try.call117 rfl rfl (CT.mono (compareI_ct (Holds.to (by assumption))) ?_)
  rintro _ w ⟨rfl, H⟩
  refine O.thenNil ⟨(by first | exact Holds.to (by assumption) | assumption), ?_⟩
  refine OQ.step rfl ?_
  refine O.buildK (e := Value.int .i64) (vs := [(0, .int .i64 (cmpR RI (pr.getD a default) (pr.getD b default))), (1, .int .i64 (cmpR RI a b))]) [cmpR RI (pr.getD a default) (pr.getD b default), cmpR RI a b] Try.runUnderlying28 Try.sizeOf3 Try.zeroValue3 rfl rfl rfl rfl rfl rfl (fun v25 w hv25 H => ?_)
  refine O.thenNil ⟨(by first | exact Holds.to (by assumption) | assumption), ?_⟩
  refine OQ.step rfl ?_
  refine O.callF Try.call116 rfl rfl (CT.mono (or_ct (Holds.to (by assumption))) ?_)
  rintro _ w ⟨rfl, H⟩
  refine O.thenNil ⟨(by first | exact Holds.to (by assumption) | assumption), ?_⟩
  refine OQ.ex rfl (fun w H => (Ex.lss rfl rfl)) rfl ?_
  refine OQ.ex rfl (fun w H => (Ex.assign rfl)) rfl ?_
  refine OQ.done ?_
  refine hK1 _ _ _ ?_
  refine W.ret ?_
  try dsimp only [thenQ, blockQ, retQ]
  first | refine ⟨_, ⟨_, _, rfl, rfl, rfl⟩, ?_⟩ | (refine retD_mark ?_; intro w H; refine ⟨_, ⟨_, _, rfl, rfl, rfl⟩, ?_⟩) | (refine retD_mark2 ?_; intro w H; refine ⟨_, ⟨_, _, rfl, rfl, rfl⟩, ?_⟩)
  exact ⟨congrArg Value.bool (decide_eq_decide.2 (key_cmp soI pr a b)), hpOI_open.2 (Holds.to (by assumption))⟩
theorem layI_ct {w : World} {h : Nat} {tv pv qv : Value} {t : List Nat} {pl : List Int} {pr : List Int} {x p : Nat} {L : List HProp} (hx : x < pl.length) (hp : p < t.length) (H : Holds w (HpOI h tv pv qv t pl pr :: L)) :
    CT Try.prog 95 [.pointer (some ⟨h, 0, none⟩), .int .i64 (x : Int), .int .i64 (p : Int)] w fun u w' => u = .tuple #[] ∧ Holds w' (HpOI h tv pv qv (t.set p x) (pl.set x (p : Int)) pr :: L) := by
  have H := hpOI_open.1 H
  have hx0 : (0 : Int) ≤ (x : Int) := by omega
  have hp0 : (0 : Int) ≤ (p : Int) := by omega
  refine CT.enter (N := 20) Try.func95 rfl rfl rfl rfl ?_
  have s1 := arr_sl (e := eN) (v := tv) (xs := t) (Holds.to (by assumption)) (by omega)
  have s2 := arr_sl (e := Value.int .i64) (v := pv) (xs := pl) (Holds.to (by assumption)) (by omega)
  refine W.drawTo (pt h _ :: []) (.take 0 (.take 1 (.take 2 (.take 3 (.take 4 (.take 5 (.take 6 (.take 7 (.take 8 (.take 9 (.take 10 (.take 11 (.take 12 (.one 13 (.take 14 (.one 15 .nil)))))))))))))))) (mixed) (fun _ _ _ _ h => h) (by assumption) PP.auto (by decide +kernel) (fun w H => ?_)
  refine OQ.ex rfl (fun w H => (Ex.move rfl)) rfl ?_
  refine OQ.ex rfl (fun w H => (by first | exact Ex.nilPtr rfl | exact Ex.nilFunc rfl | exact Ex.nilYield rfl)) rfl ?_
  refine OQ.ex rfl (fun w H => (by first | exact Ex.field0 fld126_0 rfl | exact Ex.field fld126_0 rfl | exact Ex.fieldS fld126_0 rfl)) rfl ?_
  refine OQ.ex rfl (fun w H => (by first | exact Ex.loadP Try.isAgg28 rfl | exact Ex.loadR Try.isAgg28 rfl | exact Ex.loadIn1 Try.isAgg28 rfl (Holds.to (by assumption)))) rfl ?_
  refine OQ.ex rfl (fun w H => (Ex.move rfl)) rfl ?_
  refine OQ.ex rfl (fun w H => (Ex.move rfl)) rfl ?_
  refine OQ.ex rfl (fun w H => (by first | exact Ex.nilPtr rfl | exact Ex.nilFunc rfl | exact Ex.nilYield rfl)) rfl ?_
  refine OQ.ex rfl (fun w H => (by first | exact Ex.field0 fld126_1 rfl | exact Ex.field fld126_1 rfl | exact Ex.fieldS fld126_1 rfl)) rfl ?_
  refine OQ.ex rfl (fun w H => (by first | exact Ex.loadP Try.isAgg28 rfl | exact Ex.loadR Try.isAgg28 rfl | exact Ex.loadIn1 Try.isAgg28 rfl (Holds.to (by assumption)))) rfl ?_
  refine OQ.ex rfl (fun w H => (Ex.move rfl)) rfl ?_
  refine OQ.ex rfl (fun w H => (Ex.move rfl)) rfl ?_
  refine OQ.ex rfl (fun w H => (Ex.move rfl)) rfl ?_
  refine OQ.ex rfl (fun w H => (by first | exact Ex.idxR Try.runUnderlying28 Try.sizeOf3 rfl rfl | exact Ex.idxIn Try.runUnderlying28 Try.sizeOf3 rfl rfl | exact Ex.idxS Try.runUnderlying28 Try.sizeOf3 rfl rfl | exact Ex.idx Try.runUnderlying28 Try.sizeOf3 rfl rfl (by omega) (by omega))) rfl ?_
  refine OQ.step rfl ?_
  first | refine O.storeP Try.sizeOf3 rfl rfl (fun w H => ?_) | refine O.storeR Try.sizeOf3 rfl rfl (fun w H => ?_)
  refine O.thenNil ⟨(by first | exact Holds.to (by assumption) | assumption), ?_⟩
  refine OQ.ex rfl (fun w H => (by first | exact Ex.idxR Try.runUnderlying28 Try.sizeOf3 rfl rfl | exact Ex.idxIn Try.runUnderlying28 Try.sizeOf3 rfl rfl | exact Ex.idxS Try.runUnderlying28 Try.sizeOf3 rfl rfl | exact Ex.idx Try.runUnderlying28 Try.sizeOf3 rfl rfl (by omega) (by omega))) rfl ?_
  refine OQ.last rfl (by decide +kernel) ?_
  first | refine O.storeP Try.sizeOf3 rfl rfl (fun w H => ?_) | refine O.storeR Try.sizeOf3 rfl rfl (fun w H => ?_)
  refine O.nil ?_
  try dsimp only [thenQ, blockQ, retQ]
  first | refine ⟨_, rfl, ?_⟩ | (refine retD_mark ?_; intro w H; refine ⟨_, rfl, ?_⟩) | (refine retD_mark2 ?_; intro w H; refine ⟨_, rfl, ?_⟩)
  exact ⟨rfl, hpOI_open.2 (Holds.to (by assumption))⟩
abbrev kS (pr : List ByteArray) : Nat → Nat → Prop := key LtS fun x => pr.getD x default
instance {pr : List ByteArray} {a b : Nat} : Decidable (kS pr a b) := by unfold kS key; infer_instance
end Go.Proofs.Ytliofdfhimmjmaa
