import Derived.Test.YtgbhccpjpimgfaaDoorMarkLaw
import Derived.Test.YtgbhccpjpimgfaaDoorPerm2
import Derived.Test.YtgbhccpjpimgfaaDoorClone
import Derived.Test.YtgbhccpjpimgfaaDoorRrRange
namespace Go.Proofs.YtgbhccpjpimgfaaDoor
open Go.Rr Go Mq
set_option linter.unusedVariables false
def MkO (q : Nat) (rv bv : Value) (rk : List Int) (s : Nat) : HProp := star [pt q (.cells #[rv, bv, .int .u64 (s : Int)] 58 (0, 0)), arr 3 (Value.int .i64) rv rk, arr 3 (Value.int .i64) bv (invL rk)]
theorem mkO_open {w : World} {q : Nat} {rv bv : Value} {rk : List Int} {s : Nat} {L : List HProp} : Holds w (MkO q rv bv rk s :: L) ↔ Holds w (pt q (.cells #[rv, bv, .int .u64 (s : Int)] 58 (0, 0)) :: arr 3 (Value.int .i64) rv rk :: arr 3 (Value.int .i64) bv (invL rk) :: L) := by
  unfold MkO
  simp only [Holds.star, List.cons_append, List.nil_append]
/-- A queue of an order, and the ranks that wait. -/
def Mk (q : Nat) (rk : List Int) (s : Nat) : HProp := hex fun rv => hex fun bv => MkO q rv bv rk s
theorem mk_open {w : World} {q : Nat} {rk : List Int} {s : Nat} {L : List HProp} : Holds w (Mk q rk s :: L) ↔ ∃ rv bv, Holds w (MkO q rv bv rk s :: L) := by
  unfold Mk
  simp only [Holds.hex]
theorem mnewA_ct {w  : World} {v : Value} {l : List Int} {L : List HProp} (H : Holds w (arr 3 (Value.int .i64) v l :: L)) (hlen : l.length ≤ 9223372036854775807) :
    CT Tryd.prog 9 [v] w fun u w' => ((RightP l ∧ 0 < l.length) ∧ ∃ q, u = .tuple #[.pointer (some ⟨q, 0, none⟩), .int .i64 0] ∧ Holds w' (Mk q l 0 :: arr 3 (Value.int .i64) v l :: L)) ∨ (¬ (RightP l ∧ 0 < l.length) ∧ u = .tuple #[.pointer none, .int .i64 1] ∧ Holds w' (arr 3 (Value.int .i64) v l :: L)) := by
  refine CT.enter (N := 23) Tryd.func9 rfl rfl rfl rfl ?_
  refine W.seq (fun K0 hK0 => ?_)
  refine W.region ?_
  refine O.ex (Ex.assign rfl) rfl ?_
  refine O.ex (Ex.assign rfl) rfl ?_
  refine O.nil ?_
  refine hK0 _ _ _ ?_
  refine W.seq (fun K1 hK1 => ?_)
  refine W.region ?_
  refine O.ex (Ex.move rfl) rfl ?_
  refine O.callF Tryd.call29 rfl rfl (CT.mono (inverseA_ct  (Holds.to (by assumption)) hlen) ?_)
  rintro _ w hh
  rcases hh with ⟨hr, x, rfl, hxo, H⟩ | ⟨hr, rfl, H⟩
  · refine O.ex (Ex.move rfl) rfl ?_
    refine O.ex (Ex.extract rfl rfl) rfl ?_
    refine O.ex (Ex.extract rfl rfl) rfl ?_
    refine O.ex (Ex.assign rfl) rfl ?_
    refine O.ex (Ex.assign rfl) rfl ?_
    refine O.nil ?_
    refine hK1 _ _ _ ?_
    refine W.seq (fun K2 hK2 => ?_)
    refine W.seq (fun K3 hK3 => ?_)
    refine W.region ?_
    refine O.ex (Ex.move rfl) rfl ?_
    refine O.ex (Ex.neqI rfl rfl) rfl ?_
    refine O.ex (Ex.move rfl) rfl ?_
    refine O.known (t := 13) (c := false) rfl (by first | rfl | decide | (simp; done) | omega) ?_
    refine O.guard_t rfl rfl ?_
    refine O.ex (Ex.move rfl) rfl ?_
    refine O.guard_t rfl rfl ?_
    refine O.ex (by first | exact Ex.lenR Tryd.runUnderlying22 rfl | exact Ex.lenIn Tryd.runUnderlying22 rfl | exact Ex.lenL Tryd.runUnderlying22 rfl | exact Ex.len rfl Tryd.runUnderlying22 rfl) rfl ?_
    refine O.guard_t rfl rfl ?_
    refine O.ex (Ex.eqlI rfl rfl) rfl ?_
    refine O.ex (Ex.pick_f rfl rfl) rfl ?_
    refine O.nil ?_
    refine hK3 _ _ _ ?_
    first | refine W.cond_p rfl (fun hz => ?_) (fun hnz => ?_) | refine W.cond_b rfl (fun hz => ?_) (fun hnz => ?_)
    · refine W.seq (fun K4 hK4 => ?_)
      refine W.region ?_
      refine O.ex (Ex.assign rfl) rfl ?_
      refine O.ex (Ex.assign rfl) rfl ?_
      refine O.nil ?_
      refine hK4 _ _ _ ?_
      refine W.ret ?_
      try dsimp only [thenQ, blockQ, retQ]
      first | refine ⟨_, ⟨_, _, rfl, rfl, _, _, rfl, rfl, rfl⟩, ?_⟩ | (refine retD_mark ?_; intro w H; refine ⟨_, ⟨_, _, rfl, rfl, _, _, rfl, rfl, rfl⟩, ?_⟩) | (refine retD_mark2 ?_; intro w H; refine ⟨_, ⟨_, _, rfl, rfl, _, _, rfl, rfl, rfl⟩, ?_⟩)
      first
      | exact .inr ⟨fun h => hr h.1, rfl, Holds.to (by assumption)⟩
      | exact .inr ⟨fun h => by omega, rfl, Holds.to (by assumption)⟩
      | exact .inl ⟨⟨hr, by omega⟩, _, rfl, mk_open.2 ⟨_, _, mkO_open.2 (Holds.to (by assumption))⟩⟩
    · refine W.skip ?_
      refine hK2 _ _ _ ?_
      refine W.seq (fun K5 hK5 => ?_)
      refine W.region ?_
      have h24 := hr.1
      refine O.ex (Ex.move rfl) rfl ?_
      refine O.callF Tryd.call30 rfl rfl (CT.mono (clone_ct (e := Value.int .i64) (xs := l) (fun _ => rfl) (by omega) (Holds.to (by assumption))) ?_)
      rintro _ w ⟨hc, H⟩
      refine O.ex (Ex.move rfl) rfl ?_
      refine O.ex (Ex.build rfl (bld58_0_1 _ _ (by first | rfl | assumption) (by first | rfl | assumption))) rfl ?_
      refine O.boxP rfl (fun b22 w H => ?_)
      refine O.ex (Ex.assign rfl) rfl ?_
      refine O.ex (Ex.assign rfl) rfl ?_
      refine O.nil ?_
      refine hK5 _ _ _ ?_
      refine W.ret ?_
      try dsimp only [thenQ, blockQ, retQ]
      first | refine ⟨_, ⟨_, _, rfl, rfl, _, _, rfl, rfl, rfl⟩, ?_⟩ | (refine retD_mark ?_; intro w H; refine ⟨_, ⟨_, _, rfl, rfl, _, _, rfl, rfl, rfl⟩, ?_⟩) | (refine retD_mark2 ?_; intro w H; refine ⟨_, ⟨_, _, rfl, rfl, _, _, rfl, rfl, rfl⟩, ?_⟩)
      first
      | exact .inr ⟨fun h => hr h.1, rfl, Holds.to (by assumption)⟩
      | exact .inr ⟨fun h => by omega, rfl, Holds.to (by assumption)⟩
      | exact .inl ⟨⟨hr, by omega⟩, _, rfl, mk_open.2 ⟨_, _, mkO_open.2 (Holds.to (by assumption))⟩⟩
  · refine O.ex (Ex.move rfl) rfl ?_
    refine O.ex (Ex.extract rfl rfl) rfl ?_
    refine O.ex (Ex.extract rfl rfl) rfl ?_
    refine O.ex (Ex.assign rfl) rfl ?_
    refine O.ex (Ex.assign rfl) rfl ?_
    refine O.nil ?_
    refine hK1 _ _ _ ?_
    refine W.seq (fun K6 hK6 => ?_)
    refine W.seq (fun K7 hK7 => ?_)
    refine W.region ?_
    refine O.ex (Ex.move rfl) rfl ?_
    refine O.ex (Ex.neqI rfl rfl) rfl ?_
    refine O.ex (Ex.move rfl) rfl ?_
    refine O.known (t := 13) (c := true) rfl (by first | rfl | decide | (simp; done) | omega) ?_
    refine O.guard_f rfl rfl rfl rfl ?_
    refine O.guard_f rfl rfl rfl rfl ?_
    refine O.guard_f rfl rfl rfl rfl ?_
    refine O.ex (Ex.pick_t rfl rfl) rfl ?_
    refine O.nil ?_
    refine hK7 _ _ _ ?_
    refine W.cond_t rfl ?_
    refine W.seq (fun K8 hK8 => ?_)
    refine W.region ?_
    refine O.ex (Ex.assign rfl) rfl ?_
    refine O.ex (Ex.assign rfl) rfl ?_
    refine O.nil ?_
    refine hK8 _ _ _ ?_
    refine W.ret ?_
    try dsimp only [thenQ, blockQ, retQ]
    first | refine ⟨_, ⟨_, _, rfl, rfl, _, _, rfl, rfl, rfl⟩, ?_⟩ | (refine retD_mark ?_; intro w H; refine ⟨_, ⟨_, _, rfl, rfl, _, _, rfl, rfl, rfl⟩, ?_⟩) | (refine retD_mark2 ?_; intro w H; refine ⟨_, ⟨_, _, rfl, rfl, _, _, rfl, rfl, rfl⟩, ?_⟩)
    first
    | exact .inr ⟨fun h => hr h.1, rfl, Holds.to (by assumption)⟩
    | exact .inr ⟨fun h => by omega, rfl, Holds.to (by assumption)⟩
    | exact .inl ⟨⟨hr, by omega⟩, _, rfl, mk_open.2 ⟨_, _, mkO_open.2 (Holds.to (by assumption))⟩⟩
theorem mnewI_ct {w w0 : World} {v : Value} {l : List Int} {L : List HProp} (hx : SlIn w0 1 (fun s : Int => [.int .i64 s]) v l) (H : Holds w (base w0 :: L)) (hlen : l.length ≤ 9223372036854775807) :
    CT Tryd.prog 9 [v] w fun u w' => ((RightP l ∧ 0 < l.length) ∧ ∃ q, u = .tuple #[.pointer (some ⟨q, 0, none⟩), .int .i64 0] ∧ Holds w' (Mk q l 0 :: base w0 :: L)) ∨ (¬ (RightP l ∧ 0 < l.length) ∧ u = .tuple #[.pointer none, .int .i64 1] ∧ Holds w' (base w0 :: L)) := by
  refine CT.enter (N := 23) Tryd.func9 rfl rfl rfl rfl ?_
  refine W.seq (fun K0 hK0 => ?_)
  refine W.region ?_
  refine O.ex (Ex.assign rfl) rfl ?_
  refine O.ex (Ex.assign rfl) rfl ?_
  refine O.nil ?_
  refine hK0 _ _ _ ?_
  refine W.seq (fun K1 hK1 => ?_)
  refine W.region ?_
  refine O.ex (Ex.move rfl) rfl ?_
  refine O.callF Tryd.call29 rfl rfl (CT.mono (inverseI_ct hx (Holds.to (by assumption)) hlen) ?_)
  rintro _ w hh
  rcases hh with ⟨hr, x, rfl, hxo, H⟩ | ⟨hr, rfl, H⟩
  · refine O.ex (Ex.move rfl) rfl ?_
    refine O.ex (Ex.extract rfl rfl) rfl ?_
    refine O.ex (Ex.extract rfl rfl) rfl ?_
    refine O.ex (Ex.assign rfl) rfl ?_
    refine O.ex (Ex.assign rfl) rfl ?_
    refine O.nil ?_
    refine hK1 _ _ _ ?_
    refine W.seq (fun K2 hK2 => ?_)
    refine W.seq (fun K3 hK3 => ?_)
    refine W.region ?_
    refine O.ex (Ex.move rfl) rfl ?_
    refine O.ex (Ex.neqI rfl rfl) rfl ?_
    refine O.ex (Ex.move rfl) rfl ?_
    refine O.known (t := 13) (c := false) rfl (by first | rfl | decide | (simp; done) | omega) ?_
    refine O.guard_t rfl rfl ?_
    refine O.ex (Ex.move rfl) rfl ?_
    refine O.guard_t rfl rfl ?_
    refine O.ex (by first | exact Ex.lenR Tryd.runUnderlying22 rfl | exact Ex.lenIn Tryd.runUnderlying22 rfl | exact Ex.lenL Tryd.runUnderlying22 rfl | exact Ex.len rfl Tryd.runUnderlying22 rfl) rfl ?_
    refine O.guard_t rfl rfl ?_
    refine O.ex (Ex.eqlI rfl rfl) rfl ?_
    refine O.ex (Ex.pick_f rfl rfl) rfl ?_
    refine O.nil ?_
    refine hK3 _ _ _ ?_
    first | refine W.cond_p rfl (fun hz => ?_) (fun hnz => ?_) | refine W.cond_b rfl (fun hz => ?_) (fun hnz => ?_)
    · refine W.seq (fun K4 hK4 => ?_)
      refine W.region ?_
      refine O.ex (Ex.assign rfl) rfl ?_
      refine O.ex (Ex.assign rfl) rfl ?_
      refine O.nil ?_
      refine hK4 _ _ _ ?_
      refine W.ret ?_
      try dsimp only [thenQ, blockQ, retQ]
      first | refine ⟨_, ⟨_, _, rfl, rfl, _, _, rfl, rfl, rfl⟩, ?_⟩ | (refine retD_mark ?_; intro w H; refine ⟨_, ⟨_, _, rfl, rfl, _, _, rfl, rfl, rfl⟩, ?_⟩) | (refine retD_mark2 ?_; intro w H; refine ⟨_, ⟨_, _, rfl, rfl, _, _, rfl, rfl, rfl⟩, ?_⟩)
      first
      | exact .inr ⟨fun h => hr h.1, rfl, Holds.to (by assumption)⟩
      | exact .inr ⟨fun h => by omega, rfl, Holds.to (by assumption)⟩
      | exact .inl ⟨⟨hr, by omega⟩, _, rfl, mk_open.2 ⟨_, _, mkO_open.2 (Holds.to (by assumption))⟩⟩
    · refine W.skip ?_
      refine hK2 _ _ _ ?_
      refine W.seq (fun K5 hK5 => ?_)
      refine W.region ?_
      have h24 := hr.1
      refine O.ex (Ex.move rfl) rfl ?_
      refine O.callF Tryd.call30 rfl rfl (CT.mono (cloneI_ct (e := Value.int .i64) (xs := l) (fun _ => rfl) (by omega) (by omega) hx (Holds.to (by assumption))) ?_)
      rintro _ w ⟨hc, H⟩
      refine O.ex (Ex.move rfl) rfl ?_
      refine O.ex (Ex.build rfl (bld58_0_1 _ _ (by first | rfl | assumption) (by first | rfl | assumption))) rfl ?_
      refine O.boxP rfl (fun b22 w H => ?_)
      refine O.ex (Ex.assign rfl) rfl ?_
      refine O.ex (Ex.assign rfl) rfl ?_
      refine O.nil ?_
      refine hK5 _ _ _ ?_
      refine W.ret ?_
      try dsimp only [thenQ, blockQ, retQ]
      first | refine ⟨_, ⟨_, _, rfl, rfl, _, _, rfl, rfl, rfl⟩, ?_⟩ | (refine retD_mark ?_; intro w H; refine ⟨_, ⟨_, _, rfl, rfl, _, _, rfl, rfl, rfl⟩, ?_⟩) | (refine retD_mark2 ?_; intro w H; refine ⟨_, ⟨_, _, rfl, rfl, _, _, rfl, rfl, rfl⟩, ?_⟩)
      first
      | exact .inr ⟨fun h => hr h.1, rfl, Holds.to (by assumption)⟩
      | exact .inr ⟨fun h => by omega, rfl, Holds.to (by assumption)⟩
      | exact .inl ⟨⟨hr, by omega⟩, _, rfl, mk_open.2 ⟨_, _, mkO_open.2 (Holds.to (by assumption))⟩⟩
  · refine O.ex (Ex.move rfl) rfl ?_
    refine O.ex (Ex.extract rfl rfl) rfl ?_
    refine O.ex (Ex.extract rfl rfl) rfl ?_
    refine O.ex (Ex.assign rfl) rfl ?_
    refine O.ex (Ex.assign rfl) rfl ?_
    refine O.nil ?_
    refine hK1 _ _ _ ?_
    refine W.seq (fun K6 hK6 => ?_)
    refine W.seq (fun K7 hK7 => ?_)
    refine W.region ?_
    refine O.ex (Ex.move rfl) rfl ?_
    refine O.ex (Ex.neqI rfl rfl) rfl ?_
    refine O.ex (Ex.move rfl) rfl ?_
    refine O.known (t := 13) (c := true) rfl (by first | rfl | decide | (simp; done) | omega) ?_
    refine O.guard_f rfl rfl rfl rfl ?_
    refine O.guard_f rfl rfl rfl rfl ?_
    refine O.guard_f rfl rfl rfl rfl ?_
    refine O.ex (Ex.pick_t rfl rfl) rfl ?_
    refine O.nil ?_
    refine hK7 _ _ _ ?_
    refine W.cond_t rfl ?_
    refine W.seq (fun K8 hK8 => ?_)
    refine W.region ?_
    refine O.ex (Ex.assign rfl) rfl ?_
    refine O.ex (Ex.assign rfl) rfl ?_
    refine O.nil ?_
    refine hK8 _ _ _ ?_
    refine W.ret ?_
    try dsimp only [thenQ, blockQ, retQ]
    first | refine ⟨_, ⟨_, _, rfl, rfl, _, _, rfl, rfl, rfl⟩, ?_⟩ | (refine retD_mark ?_; intro w H; refine ⟨_, ⟨_, _, rfl, rfl, _, _, rfl, rfl, rfl⟩, ?_⟩) | (refine retD_mark2 ?_; intro w H; refine ⟨_, ⟨_, _, rfl, rfl, _, _, rfl, rfl, rfl⟩, ?_⟩)
    first
    | exact .inr ⟨fun h => hr h.1, rfl, Holds.to (by assumption)⟩
    | exact .inr ⟨fun h => by omega, rfl, Holds.to (by assumption)⟩
    | exact .inl ⟨⟨hr, by omega⟩, _, rfl, mk_open.2 ⟨_, _, mkO_open.2 (Holds.to (by assumption))⟩⟩
theorem may_ct {w w0 : World} {v : Value} {l : List Int} {L : List HProp} (hx : SlIn w0 1 (fun s : Int => [.int .i64 s]) v l) (H : Holds w (base w0 :: L)) (hlen : l.length ≤ 9223372036854775807) :
    CT Tryd.prog 8 [v] w fun u w' => u = .bool (decide (RightP l ∧ 0 < l.length)) ∧ Holds w' (base w0 :: L) := by
  refine CT.enter (N := 10) Tryd.func8 rfl rfl rfl rfl ?_
  refine W.seq (fun K0 hK0 => ?_)
  refine W.region ?_
  refine O.ex (Ex.assign rfl) rfl ?_
  refine O.nil ?_
  refine hK0 _ _ _ ?_
  refine W.seq (fun K1 hK1 => ?_)
  refine W.region ?_
  refine O.ex (Ex.move rfl) rfl ?_
  refine O.ex (by first | exact Ex.lenR Tryd.runUnderlying22 rfl | exact Ex.lenIn Tryd.runUnderlying22 rfl | exact Ex.lenL Tryd.runUnderlying22 rfl | exact Ex.len rfl Tryd.runUnderlying22 rfl) rfl ?_
  refine O.ex (Ex.geq rfl rfl) rfl ?_
  refine O.ex (Ex.move rfl) rfl ?_
  first | refine O.split_p (t := 6) rfl (fun hge => ?_) (fun hlt => ?_) | refine O.split (t := 6) rfl (fun hge => ?_) (fun hlt => ?_)
  · refine O.guard_t rfl rfl ?_
    refine O.ex (Ex.move rfl) rfl ?_
    refine O.guard_t rfl rfl ?_
    refine O.callF Tryd.call28 rfl rfl (CT.mono (refRightI_ct hx (Holds.to (by assumption)) hlen) ?_)
    rintro _ w ⟨rfl, H⟩
    refine O.ex (Ex.pick_t rfl rfl) rfl ?_
    refine O.ex (Ex.assign rfl) rfl ?_
    refine O.nil ?_
    refine hK1 _ _ _ ?_
    refine W.ret ?_
    try dsimp only [thenQ, blockQ, retQ]
    first | refine ⟨_, ⟨_, _, rfl, rfl, rfl⟩, ?_⟩ | (refine retD_mark ?_; intro w H; refine ⟨_, ⟨_, _, rfl, rfl, rfl⟩, ?_⟩) | (refine retD_mark2 ?_; intro w H; refine ⟨_, ⟨_, _, rfl, rfl, rfl⟩, ?_⟩)
    refine ⟨congrArg Value.bool ?_, Holds.to (by assumption)⟩
    first
    | exact decide_eq_decide.2 ⟨fun h => ⟨h, by omega⟩, fun h => h.1⟩
    | exact (decide_eq_false (fun h => by omega)).symm
  · refine O.guard_f rfl rfl rfl rfl ?_
    refine O.guard_f rfl rfl rfl rfl ?_
    refine O.ex (Ex.pick_f rfl rfl) rfl ?_
    refine O.ex (Ex.assign rfl) rfl ?_
    refine O.nil ?_
    refine hK1 _ _ _ ?_
    refine W.ret ?_
    try dsimp only [thenQ, blockQ, retQ]
    first | refine ⟨_, ⟨_, _, rfl, rfl, rfl⟩, ?_⟩ | (refine retD_mark ?_; intro w H; refine ⟨_, ⟨_, _, rfl, rfl, rfl⟩, ?_⟩) | (refine retD_mark2 ?_; intro w H; refine ⟨_, ⟨_, _, rfl, rfl, rfl⟩, ?_⟩)
    refine ⟨congrArg Value.bool ?_, Holds.to (by assumption)⟩
    first
    | exact decide_eq_decide.2 ⟨fun h => ⟨h, by omega⟩, fun h => h.1⟩
    | exact (decide_eq_false (fun h => by omega)).symm
theorem qLen_ct {w : World} {q : Nat} {rk : List Int} {s : Nat} {L : List HProp} (hs : s < 18446744073709551616) (H : Holds w (Mk q rk s :: L)) :
    CT Tryd.prog 16 [.pointer (some ⟨q, 0, none⟩)] w fun u w' => u = .int .i64 (pop s : Int) ∧ Holds w' (Mk q rk s :: L) := by
  obtain ⟨rv, bv, H⟩ := mk_open.1 H
  have H := mkO_open.1 H
  refine CT.enter (N := 8) Tryd.func16 rfl rfl rfl rfl ?_
  refine W.seq (fun K0 hK0 => ?_)
  refine W.region ?_
  refine O.ex (Ex.assign rfl) rfl ?_
  refine O.nil ?_
  refine hK0 _ _ _ ?_
  refine W.seq (fun K1 hK1 => ?_)
  refine W.region ?_
  refine O.ex (Ex.move rfl) rfl ?_
  refine O.ex (by first | exact Ex.nilPtr rfl | exact Ex.nilFunc rfl | exact Ex.nilYield rfl) rfl ?_
  refine O.ex (by first | exact Ex.field0 fld58_2 rfl | exact Ex.field fld58_2 rfl | exact Ex.fieldS fld58_2 rfl) rfl ?_
  refine O.ex (by first | exact Ex.loadP Tryd.isAgg41 rfl | exact Ex.loadR Tryd.isAgg41 rfl | exact Ex.loadIn1 Tryd.isAgg41 rfl (Holds.to (by assumption))) rfl ?_
  refine O.callF Tryd.call22 rfl rfl (CT.mono (len_ct (Holds.to (by assumption)) hs) ?_)
  rintro _ w ⟨rfl, H⟩
  refine O.ex (Ex.assign rfl) rfl ?_
  refine O.nil ?_
  refine hK1 _ _ _ ?_
  refine W.ret ?_
  try dsimp only [thenQ, blockQ, retQ]
  first | refine ⟨_, ⟨_, _, rfl, rfl, rfl⟩, ?_⟩ | (refine retD_mark ?_; intro w H; refine ⟨_, ⟨_, _, rfl, rfl, rfl⟩, ?_⟩) | (refine retD_mark2 ?_; intro w H; refine ⟨_, ⟨_, _, rfl, rfl, rfl⟩, ?_⟩)
  exact ⟨rfl, mk_open.2 ⟨_, _, mkO_open.2 (Holds.to (by assumption))⟩⟩
theorem qFirst_ct {w w0 : World} {q : Nat} {rk : List Int} {s : Nat} {L : List HProp} (hT : TabAt w0) (hr : RightP rk) (hs : SOk rk.length s) (H : Holds w (base w0 :: Mk q rk s :: L)) :
    CT Tryd.prog 27 [.pointer (some ⟨q, 0, none⟩)] w fun u w' => u = .tuple #[.int .i64 (frs rk s), .bool (decide (s ≠ 0))] ∧ Holds w' (base w0 :: Mk q rk s :: L) := by
  obtain ⟨rv, bv, H⟩ := mk_open.1 H.swap
  have H := mkO_open.1 H
  refine CT.enter (N := 23) Tryd.func27 rfl rfl rfl rfl ?_
  refine W.seq (fun K0 hK0 => ?_)
  refine W.region ?_
  refine O.ex (Ex.assign rfl) rfl ?_
  refine O.ex (Ex.assign rfl) rfl ?_
  refine O.nil ?_
  refine hK0 _ _ _ ?_
  refine W.seq (fun K1 hK1 => ?_)
  refine W.region ?_
  refine O.ex (Ex.move rfl) rfl ?_
  refine O.ex (by first | exact Ex.nilPtr rfl | exact Ex.nilFunc rfl | exact Ex.nilYield rfl) rfl ?_
  refine O.ex (by first | exact Ex.field0 fld58_2 rfl | exact Ex.field fld58_2 rfl | exact Ex.fieldS fld58_2 rfl) rfl ?_
  refine O.ex (by first | exact Ex.loadP Tryd.isAgg41 rfl | exact Ex.loadR Tryd.isAgg41 rfl | exact Ex.loadIn1 Tryd.isAgg41 rfl (Holds.to (by assumption))) rfl ?_
  refine O.callF Tryd.call35 rfl rfl (CT.mono (first_ct (w0 := w0) hT (Holds.to (by assumption)) hs.1) ?_)
  rintro _ w ⟨rfl, H⟩
  refine O.ex (Ex.move rfl) rfl ?_
  refine O.ex (Ex.extract rfl rfl) rfl ?_
  refine O.ex (Ex.extract rfl rfl) rfl ?_
  refine O.ex (Ex.assign rfl) rfl ?_
  refine O.ex (Ex.assign rfl) rfl ?_
  refine O.nil ?_
  refine hK1 _ _ _ ?_
  refine W.seq (fun K2 hK2 => ?_)
  refine W.seq (fun K3 hK3 => ?_)
  refine W.region ?_
  refine O.ex (Ex.move rfl) rfl ?_
  refine O.ex (by first | exact Ex.notD rfl | exact Ex.not rfl) rfl ?_
  refine O.nil ?_
  refine hK3 _ _ _ ?_
  first | refine W.cond_p rfl (fun hz => ?_) (fun hnz => ?_) | refine W.cond_b rfl (fun hz => ?_) (fun hnz => ?_)
  · refine W.seq (fun K4 hK4 => ?_)
    refine W.region ?_
    refine O.ex (Ex.assign rfl) rfl ?_
    refine O.ex (Ex.assign rfl) rfl ?_
    refine O.nil ?_
    refine hK4 _ _ _ ?_
    refine W.ret ?_
    try dsimp only [thenQ, blockQ, retQ]
    first | refine ⟨_, ⟨_, _, rfl, rfl, _, _, rfl, rfl, rfl⟩, ?_⟩ | (refine retD_mark ?_; intro w H; refine ⟨_, ⟨_, _, rfl, rfl, _, _, rfl, rfl, rfl⟩, ?_⟩) | (refine retD_mark2 ?_; intro w H; refine ⟨_, ⟨_, _, rfl, rfl, _, _, rfl, rfl, rfl⟩, ?_⟩)
    refine ⟨?_, Holds.to (mk_open.2 ⟨rv, bv, mkO_open.2 (Holds.to (by assumption))⟩)⟩
    unfold frs
    first
    | (rw [if_pos (Decidable.not_not.1 hz), decide_eq_false hz]; rfl)
    | (rw [if_neg h0, decide_eq_true h0]; rfl)
  · refine W.skip ?_
    refine hK2 _ _ _ ?_
    refine W.seq (fun K5 hK5 => ?_)
    refine W.region ?_
    have h0 : s ≠ 0 := Decidable.not_not.1 hnz
    have hf := fst_lt hs h0
    have hil : (invL rk).length = rk.length := invL_len rk
    have hf1 : (fstS s).toNat < (invL rk).length := by rw [hil]; exact hf.2.1
    have hf0 := hf.1
    refine O.ex (Ex.move rfl) rfl ?_
    refine O.ex (by first | exact Ex.nilPtr rfl | exact Ex.nilFunc rfl | exact Ex.nilYield rfl) rfl ?_
    refine O.ex (by first | exact Ex.field0 fld58_1 rfl | exact Ex.field fld58_1 rfl | exact Ex.fieldS fld58_1 rfl) rfl ?_
    refine O.ex (by first | exact Ex.loadP Tryd.isAgg22 rfl | exact Ex.loadR Tryd.isAgg22 rfl | exact Ex.loadIn1 Tryd.isAgg22 rfl (Holds.to (by assumption))) rfl ?_
    refine O.ex (Ex.move rfl) rfl ?_
    refine O.ex (by first | exact Ex.idxR Tryd.runUnderlying22 Tryd.sizeOf3 rfl rfl | exact Ex.idxIn Tryd.runUnderlying22 Tryd.sizeOf3 rfl rfl | exact Ex.idxS Tryd.runUnderlying22 Tryd.sizeOf3 rfl rfl | exact Ex.idx Tryd.runUnderlying22 Tryd.sizeOf3 rfl rfl (by omega) (by omega)) rfl ?_
    refine O.ex (by first | exact Ex.loadP Tryd.isAgg3 rfl | exact Ex.loadR Tryd.isAgg3 rfl | exact Ex.loadIn1 Tryd.isAgg3 rfl (Holds.to (by assumption))) rfl ?_
    refine O.ex (Ex.assign rfl) rfl ?_
    refine O.ex (Ex.assign rfl) rfl ?_
    refine O.nil ?_
    refine hK5 _ _ _ ?_
    refine W.ret ?_
    try dsimp only [thenQ, blockQ, retQ]
    first | refine ⟨_, ⟨_, _, rfl, rfl, _, _, rfl, rfl, rfl⟩, ?_⟩ | (refine retD_mark ?_; intro w H; refine ⟨_, ⟨_, _, rfl, rfl, _, _, rfl, rfl, rfl⟩, ?_⟩) | (refine retD_mark2 ?_; intro w H; refine ⟨_, ⟨_, _, rfl, rfl, _, _, rfl, rfl, rfl⟩, ?_⟩)
    refine ⟨?_, Holds.to (mk_open.2 ⟨rv, bv, mkO_open.2 (Holds.to (by assumption))⟩)⟩
    unfold frs
    first
    | (rw [if_pos (Decidable.not_not.1 hz), decide_eq_false hz]; rfl)
    | (rw [if_neg h0, decide_eq_true h0]; rfl)
theorem qFloorO_ct {w w0 : World} {q : Nat} {rv bv : Value} {rk : List Int} {s : Nat} {L : List HProp} (hT : TabAt w0) (hs : s < 18446744073709551616) (H : Holds w (base w0 :: MkO q rv bv rk s :: L)) :
    CT Tryd.prog 17 [.pointer (some ⟨q, 0, none⟩)] w fun u w' => u = .int .i64 (flr rk s) ∧ Holds w' (base w0 :: MkO q rv bv rk s :: L) := by
  have H := mkO_open.1 H.swap
  refine CT.enter (N := 20) Tryd.func17 rfl rfl rfl rfl ?_
  refine W.seq (fun K0 hK0 => ?_)
  refine W.region ?_
  refine O.ex (Ex.assign rfl) rfl ?_
  refine O.nil ?_
  refine hK0 _ _ _ ?_
  refine W.seq (fun K1 hK1 => ?_)
  refine W.seq (fun K2 hK2 => ?_)
  refine W.region ?_
  refine O.ex (Ex.move rfl) rfl ?_
  refine O.ex (by first | exact Ex.nilPtr rfl | exact Ex.nilFunc rfl | exact Ex.nilYield rfl) rfl ?_
  refine O.ex (by first | exact Ex.field0 fld58_2 rfl | exact Ex.field fld58_2 rfl | exact Ex.fieldS fld58_2 rfl) rfl ?_
  refine O.ex (by first | exact Ex.loadP Tryd.isAgg41 rfl | exact Ex.loadR Tryd.isAgg41 rfl | exact Ex.loadIn1 Tryd.isAgg41 rfl (Holds.to (by assumption))) rfl ?_
  refine O.callF Tryd.call35 rfl rfl (CT.mono (first_ct (w0 := w0) hT (Holds.to (by assumption)) hs) ?_)
  rintro _ w ⟨rfl, H⟩
  refine O.ex (Ex.move rfl) rfl ?_
  refine O.ex (Ex.extract rfl rfl) rfl ?_
  refine O.ex (Ex.extract rfl rfl) rfl ?_
  refine O.ex (Ex.assign rfl) rfl ?_
  refine O.ex (Ex.assign rfl) rfl ?_
  refine O.nil ?_
  refine hK2 _ _ _ ?_
  refine W.seq (fun K3 hK3 => ?_)
  refine W.region ?_
  refine O.ex (Ex.move rfl) rfl ?_
  refine O.nil ?_
  refine hK3 _ _ _ ?_
  first | refine W.cond_p rfl (fun hnz => ?_) (fun hz => ?_) | refine W.cond_b rfl (fun hnz => ?_) (fun hz => ?_)
  · refine W.seq (fun K4 hK4 => ?_)
    refine W.region ?_
    refine O.ex (Ex.move rfl) rfl ?_
    refine O.ex (Ex.assign rfl) rfl ?_
    refine O.nil ?_
    refine hK4 _ _ _ ?_
    refine W.ret ?_
    try dsimp only [thenQ, blockQ, retQ]
    first | refine ⟨_, ⟨_, _, rfl, rfl, rfl⟩, ?_⟩ | (refine retD_mark ?_; intro w H; refine ⟨_, ⟨_, _, rfl, rfl, rfl⟩, ?_⟩) | (refine retD_mark2 ?_; intro w H; refine ⟨_, ⟨_, _, rfl, rfl, rfl⟩, ?_⟩)
    refine ⟨?_, Holds.to (mkO_open.2 (Holds.to (by assumption)))⟩
    unfold flr
    first
    | (rw [if_neg hnz]; rfl)
    | (rw [if_pos (Decidable.not_not.1 hz)]; rfl)
  · refine W.skip ?_
    refine hK1 _ _ _ ?_
    refine W.seq (fun K5 hK5 => ?_)
    refine W.region ?_
    refine O.ex (Ex.move rfl) rfl ?_
    refine O.ex (by first | exact Ex.nilPtr rfl | exact Ex.nilFunc rfl | exact Ex.nilYield rfl) rfl ?_
    refine O.ex (by first | exact Ex.field0 fld58_0 rfl | exact Ex.field fld58_0 rfl | exact Ex.fieldS fld58_0 rfl) rfl ?_
    refine O.ex (by first | exact Ex.loadP Tryd.isAgg22 rfl | exact Ex.loadR Tryd.isAgg22 rfl | exact Ex.loadIn1 Tryd.isAgg22 rfl (Holds.to (by assumption))) rfl ?_
    refine O.ex (by first | exact Ex.lenR Tryd.runUnderlying22 rfl | exact Ex.lenIn Tryd.runUnderlying22 rfl | exact Ex.lenL Tryd.runUnderlying22 rfl | exact Ex.len rfl Tryd.runUnderlying22 rfl) rfl ?_
    refine O.ex (Ex.assign rfl) rfl ?_
    refine O.nil ?_
    refine hK5 _ _ _ ?_
    refine W.ret ?_
    try dsimp only [thenQ, blockQ, retQ]
    first | refine ⟨_, ⟨_, _, rfl, rfl, rfl⟩, ?_⟩ | (refine retD_mark ?_; intro w H; refine ⟨_, ⟨_, _, rfl, rfl, rfl⟩, ?_⟩) | (refine retD_mark2 ?_; intro w H; refine ⟨_, ⟨_, _, rfl, rfl, rfl⟩, ?_⟩)
    refine ⟨?_, Holds.to (mkO_open.2 (Holds.to (by assumption)))⟩
    unfold flr
    first
    | (rw [if_neg hnz]; rfl)
    | (rw [if_pos (Decidable.not_not.1 hz)]; rfl)
theorem qFloor_ct {w w0 : World} {q : Nat} {rk : List Int} {s : Nat} {L : List HProp} (hT : TabAt w0) (hs : s < 18446744073709551616) (H : Holds w (base w0 :: Mk q rk s :: L)) :
    CT Tryd.prog 17 [.pointer (some ⟨q, 0, none⟩)] w fun u w' => u = .int .i64 (flr rk s) ∧ Holds w' (base w0 :: Mk q rk s :: L) := by
  obtain ⟨rv, bv, H⟩ := mk_open.1 H.swap
  exact (qFloorO_ct hT hs H.swap).mono fun u w' h => ⟨h.1, Holds.swap (mk_open.2 ⟨rv, bv, h.2.swap⟩)⟩
theorem qTake_ct {w w0 : World} {q : Nat} {rk : List Int} {s : Nat} {L : List HProp} (hT : TabAt w0) (hr : RightP rk) (hs : SOk rk.length s) (H : Holds w (base w0 :: Mk q rk s :: L)) :
    CT Tryd.prog 15 [.pointer (some ⟨q, 0, none⟩)] w fun u w' => u = .tuple #[.int .i64 (frs rk s), .bool (decide (s ≠ 0))] ∧ Holds w' (base w0 :: Mk q rk (tks rk s) :: L) := by
  refine CT.enter (N := 23) Tryd.func15 rfl rfl rfl rfl ?_
  refine W.seq (fun K0 hK0 => ?_)
  refine W.region ?_
  refine O.ex (Ex.assign rfl) rfl ?_
  refine O.ex (Ex.assign rfl) rfl ?_
  refine O.nil ?_
  refine hK0 _ _ _ ?_
  refine W.seq (fun K1 hK1 => ?_)
  refine W.region ?_
  refine O.ex (Ex.move rfl) rfl ?_
  refine O.callF Tryd.call27 rfl rfl (CT.mono (qFirst_ct hT hr hs (Holds.to (by assumption))) ?_)
  rintro _ w ⟨rfl, H⟩
  refine O.ex (Ex.move rfl) rfl ?_
  refine O.ex (Ex.extract rfl rfl) rfl ?_
  refine O.ex (Ex.extract rfl rfl) rfl ?_
  refine O.ex (Ex.assign rfl) rfl ?_
  refine O.ex (Ex.assign rfl) rfl ?_
  refine O.nil ?_
  refine hK1 _ _ _ ?_
  refine W.seq (fun K2 hK2 => ?_)
  obtain ⟨rv, bv, H⟩ := mk_open.1 H.swap
  have H := mkO_open.1 H
  refine W.drawTo (pt q _ :: []) (.take 0 (.take 1 (.take 2 (.take 3 (.take 4 (.take 5 (.one 6 (.one 7 (.take 8 (.take 9 (.one 10 .nil))))))))))) (mixed) (fun _ _ _ _ h => h) (by assumption) PP.auto (by decide +kernel) (fun w H => ?_)
  refine OQ.ex rfl (fun w H => (Ex.move rfl)) rfl ?_
  refine OQ.ex rfl (fun w H => (Ex.move rfl)) rfl ?_
  refine OQ.ex rfl (fun w H => (by first | exact Ex.nilPtr rfl | exact Ex.nilFunc rfl | exact Ex.nilYield rfl)) rfl ?_
  refine OQ.ex rfl (fun w H => (by first | exact Ex.field0 fld58_2 rfl | exact Ex.field fld58_2 rfl | exact Ex.fieldS fld58_2 rfl)) rfl ?_
  refine OQ.ex rfl (fun w H => (by first | exact Ex.loadP Tryd.isAgg41 rfl | exact Ex.loadR Tryd.isAgg41 rfl | exact Ex.loadIn1 Tryd.isAgg41 rfl (Holds.to (by assumption)))) rfl ?_
  refine OQ.ex rfl (fun w H => (Ex.move rfl)) rfl ?_
  refine OQ.step rfl ?_
  refine O.callF Tryd.call17 rfl rfl (CT.mono (qFloorO_ct (rv := rv) (bv := bv) (rk := rk) (s := s) hT hs.1 (Holds.swap (mkO_open.2 (Holds.to (by assumption))))) ?_)
  rintro _ w ⟨rfl, H⟩
  have H := mkO_open.1 H.swap
  refine O.thenNil ⟨(by first | exact Holds.to (by assumption) | assumption), ?_⟩
  refine OQ.step rfl ?_
  refine O.callF Tryd.call21 rfl rfl (CT.mono (without_ct (Holds.to (by assumption)) hs.1) ?_)
  rintro _ w ⟨rfl, H⟩
  refine O.thenNil ⟨(by first | exact Holds.to (by assumption) | assumption), ?_⟩
  refine OQ.ex rfl (fun w H => (by first | exact Ex.nilPtr rfl | exact Ex.nilFunc rfl | exact Ex.nilYield rfl)) rfl ?_
  refine OQ.ex rfl (fun w H => (by first | exact Ex.field0 fld58_2 rfl | exact Ex.field fld58_2 rfl | exact Ex.fieldS fld58_2 rfl)) rfl ?_
  refine OQ.last rfl (by decide +kernel) ?_
  first | refine O.storeP Tryd.sizeOf41 rfl rfl (fun w H => ?_) | refine O.storeR Tryd.sizeOf41 rfl rfl (fun w H => ?_)
  refine O.nil ?_
  refine hK2 _ _ _ ?_
  refine W.seq (fun K3 hK3 => ?_)
  refine W.region ?_
  refine O.ex (Ex.move rfl) rfl ?_
  refine O.ex (Ex.move rfl) rfl ?_
  refine O.ex (Ex.assign rfl) rfl ?_
  refine O.ex (Ex.assign rfl) rfl ?_
  refine O.nil ?_
  refine hK3 _ _ _ ?_
  refine W.ret ?_
  try dsimp only [thenQ, blockQ, retQ]
  first | refine ⟨_, ⟨_, _, rfl, rfl, _, _, rfl, rfl, rfl⟩, ?_⟩ | (refine retD_mark ?_; intro w H; refine ⟨_, ⟨_, _, rfl, rfl, _, _, rfl, rfl, rfl⟩, ?_⟩) | (refine retD_mark2 ?_; intro w H; refine ⟨_, ⟨_, _, rfl, rfl, _, _, rfl, rfl, rfl⟩, ?_⟩)
  exact ⟨rfl, Holds.swap (mk_open.2 ⟨rv, bv, mkO_open.2 (Holds.to (by assumption))⟩)⟩
theorem qFill_ct {w : World} {q : Nat} {rk : List Int} {s : Nat} {L : List HProp} (H : Holds w (Mk q rk s :: L)) :
    CT Tryd.prog 24 [.pointer (some ⟨q, 0, none⟩)] w fun u w' => u = .tuple #[] ∧ Holds w' (Mk q rk (belN (rk.length : Int)) :: L) := by
  obtain ⟨rv, bv, H⟩ := mk_open.1 H
  have H := mkO_open.1 H
  refine CT.enter (N := 11) Tryd.func24 rfl rfl rfl rfl ?_
  refine W.region ?_
  refine O.ex (Ex.move rfl) rfl ?_
  refine O.ex (Ex.move rfl) rfl ?_
  refine O.ex (by first | exact Ex.nilPtr rfl | exact Ex.nilFunc rfl | exact Ex.nilYield rfl) rfl ?_
  refine O.ex (by first | exact Ex.field0 fld58_0 rfl | exact Ex.field fld58_0 rfl | exact Ex.fieldS fld58_0 rfl) rfl ?_
  refine O.ex (by first | exact Ex.loadP Tryd.isAgg22 rfl | exact Ex.loadR Tryd.isAgg22 rfl | exact Ex.loadIn1 Tryd.isAgg22 rfl (Holds.to (by assumption))) rfl ?_
  refine O.ex (by first | exact Ex.lenR Tryd.runUnderlying22 rfl | exact Ex.lenIn Tryd.runUnderlying22 rfl | exact Ex.lenL Tryd.runUnderlying22 rfl | exact Ex.len rfl Tryd.runUnderlying22 rfl) rfl ?_
  refine O.callF Tryd.call40 rfl rfl (CT.mono (below_ct (Holds.to (by assumption))) ?_)
  rintro _ w ⟨rfl, H⟩
  refine O.ex (by first | exact Ex.nilPtr rfl | exact Ex.nilFunc rfl | exact Ex.nilYield rfl) rfl ?_
  refine O.ex (by first | exact Ex.field0 fld58_2 rfl | exact Ex.field fld58_2 rfl | exact Ex.fieldS fld58_2 rfl) rfl ?_
  first | refine O.storeP Tryd.sizeOf41 rfl rfl (fun w H => ?_) | refine O.storeR Tryd.sizeOf41 rfl rfl (fun w H => ?_)
  refine O.nil ?_
  try dsimp only [thenQ, blockQ, retQ]
  first | refine ⟨_, rfl, ?_⟩ | (refine retD_mark ?_; intro w H; refine ⟨_, rfl, ?_⟩) | (refine retD_mark2 ?_; intro w H; refine ⟨_, rfl, ?_⟩)
  exact ⟨rfl, mk_open.2 ⟨_, _, mkO_open.2 (Holds.to (by assumption))⟩⟩
abbrev addB (s : Nat) (r : Int) : Nat := s ||| bitN r
theorem put1_ct {w : World} {q c : Nat} {rv bv : Value} {rk : List Int} {s : Nat} {r : Int} {L : List HProp} (hs : s < 18446744073709551616) (H : Holds w (pt c (.cells #[.pointer (some ⟨q, 0, none⟩)] 25 (0, 0)) :: MkO q rv bv rk s :: L)) :
    CT Tryd.prog 32 [.int .i64 r, .pointer (some ⟨c, 0, none⟩)] w fun u w' => u = .int .i64 (if inS s r = true then 5 else 0) ∧ Holds w' (MkO q rv bv rk (if inS s r = true then s else addB s r) :: L) := by
  have H := mkO_open.1 H.swap
  refine CT.enter (N := 19) Tryd.func32 rfl rfl rfl rfl ?_
  refine W.seq (fun K0 hK0 => ?_)
  refine W.region ?_
  refine O.ex (Ex.assign rfl) rfl ?_
  refine O.nil ?_
  refine hK0 _ _ _ ?_
  refine W.seq (fun K1 hK1 => ?_)
  refine W.seq (fun K2 hK2 => ?_)
  refine W.region ?_
  refine O.ex (by first | exact Ex.loadP Tryd.isAgg25 rfl | exact Ex.loadR Tryd.isAgg25 rfl | exact Ex.loadIn1 Tryd.isAgg25 rfl (Holds.to (by assumption))) rfl ?_
  refine O.ex (by first | exact Ex.nilPtr rfl | exact Ex.nilFunc rfl | exact Ex.nilYield rfl) rfl ?_
  refine O.ex (by first | exact Ex.field0 fld58_2 rfl | exact Ex.field fld58_2 rfl | exact Ex.fieldS fld58_2 rfl) rfl ?_
  refine O.ex (by first | exact Ex.loadP Tryd.isAgg41 rfl | exact Ex.loadR Tryd.isAgg41 rfl | exact Ex.loadIn1 Tryd.isAgg41 rfl (Holds.to (by assumption))) rfl ?_
  refine O.ex (Ex.move rfl) rfl ?_
  refine O.callF Tryd.call20 rfl rfl (CT.mono (has_ct (Holds.to (by assumption)) hs) ?_)
  rintro _ w ⟨rfl, H⟩
  refine O.nil ?_
  refine hK2 _ _ _ ?_
  first | refine W.cond_p rfl (fun hin => ?_) (fun hout => ?_) | refine W.cond_b rfl (fun hin => ?_) (fun hout => ?_)
  · refine W.seq (fun K3 hK3 => ?_)
    refine W.region ?_
    refine O.ex (Ex.assign rfl) rfl ?_
    refine O.nil ?_
    refine hK3 _ _ _ ?_
    refine W.ret ?_
    try dsimp only [thenQ, blockQ, retQ]
    first | refine ⟨_, ⟨_, _, rfl, rfl, rfl⟩, ?_⟩ | (refine retD_mark ?_; intro w H; refine ⟨_, ⟨_, _, rfl, rfl, rfl⟩, ?_⟩) | (refine retD_mark2 ?_; intro w H; refine ⟨_, ⟨_, _, rfl, rfl, rfl⟩, ?_⟩)
    first
    | (have e : inS s r = false := by simpa using hout
       simp only [e, Bool.false_eq_true, if_false]
       exact ⟨rfl, mkO_open.2 (Holds.to (by assumption))⟩)
    | (have e : inS s r = true := by simpa using hin
       simp only [e, if_true]
       exact ⟨rfl, mkO_open.2 (Holds.to (by assumption))⟩)
  · refine W.skip ?_
    refine hK1 _ _ _ ?_
    refine W.seq (fun K4 hK4 => ?_)
    refine W.drawTo (pt c _ :: pt q _ :: []) (.take 0 (.take 1 (.take 2 (.take 3 (.take 4 (.take 5 (.one 6 (.take 7 (.take 8 (.one 9 .nil)))))))))) (mixed) (fun _ _ _ _ h => h) (by assumption) PP.auto (by decide +kernel) (fun w H => ?_)
    refine OQ.ex rfl (fun w H => (by first | exact Ex.loadP Tryd.isAgg25 rfl | exact Ex.loadR Tryd.isAgg25 rfl | exact Ex.loadIn1 Tryd.isAgg25 rfl (Holds.to (by assumption)))) rfl ?_
    refine OQ.ex rfl (fun w H => (by first | exact Ex.loadP Tryd.isAgg25 rfl | exact Ex.loadR Tryd.isAgg25 rfl | exact Ex.loadIn1 Tryd.isAgg25 rfl (Holds.to (by assumption)))) rfl ?_
    refine OQ.ex rfl (fun w H => (by first | exact Ex.nilPtr rfl | exact Ex.nilFunc rfl | exact Ex.nilYield rfl)) rfl ?_
    refine OQ.ex rfl (fun w H => (by first | exact Ex.field0 fld58_2 rfl | exact Ex.field fld58_2 rfl | exact Ex.fieldS fld58_2 rfl)) rfl ?_
    refine OQ.ex rfl (fun w H => (by first | exact Ex.loadP Tryd.isAgg41 rfl | exact Ex.loadR Tryd.isAgg41 rfl | exact Ex.loadIn1 Tryd.isAgg41 rfl (Holds.to (by assumption)))) rfl ?_
    refine OQ.ex rfl (fun w H => (Ex.move rfl)) rfl ?_
    refine OQ.step rfl ?_
    refine O.callF Tryd.call19 rfl rfl (CT.mono (with_ct (Holds.to (by assumption)) hs) ?_)
    rintro _ w ⟨rfl, H⟩
    refine O.thenNil ⟨(by first | exact Holds.to (by assumption) | assumption), ?_⟩
    refine OQ.ex rfl (fun w H => (by first | exact Ex.nilPtr rfl | exact Ex.nilFunc rfl | exact Ex.nilYield rfl)) rfl ?_
    refine OQ.ex rfl (fun w H => (by first | exact Ex.field0 fld58_2 rfl | exact Ex.field fld58_2 rfl | exact Ex.fieldS fld58_2 rfl)) rfl ?_
    refine OQ.last rfl (by decide +kernel) ?_
    first | refine O.storeP Tryd.sizeOf41 rfl rfl (fun w H => ?_) | refine O.storeR Tryd.sizeOf41 rfl rfl (fun w H => ?_)
    refine O.nil ?_
    refine hK4 _ _ _ ?_
    refine W.seq (fun K5 hK5 => ?_)
    refine W.region ?_
    refine O.ex (Ex.assign rfl) rfl ?_
    refine O.nil ?_
    refine hK5 _ _ _ ?_
    refine W.ret ?_
    try dsimp only [thenQ, blockQ, retQ]
    first | refine ⟨_, ⟨_, _, rfl, rfl, rfl⟩, ?_⟩ | (refine retD_mark ?_; intro w H; refine ⟨_, ⟨_, _, rfl, rfl, rfl⟩, ?_⟩) | (refine retD_mark2 ?_; intro w H; refine ⟨_, ⟨_, _, rfl, rfl, rfl⟩, ?_⟩)
    first
    | (have e : inS s r = false := by simpa using hout
       simp only [e, Bool.false_eq_true, if_false]
       exact ⟨rfl, mkO_open.2 (Holds.to (by assumption))⟩)
    | (have e : inS s r = true := by simpa using hin
       simp only [e, if_true]
       exact ⟨rfl, mkO_open.2 (Holds.to (by assumption))⟩)
theorem ofC_ct {w : World} {q : Nat} {rv bv fv : Value} {rk : List Int} {s : Nat} {v : Int} {R : Value → World → Prop} {F : List HProp} (h24 : rk.length ≤ 24) (H : Holds w (MkO q rv bv rk s :: F))
    (hin : 0 ≤ v → v < rk.length → ∀ w', Holds w' (MkO q rv bv rk s :: F) → VT Tryd.prog fv [.int .i64 (rk.getD v.toNat default)] w' R) (hout : ¬ (0 ≤ v ∧ v < rk.length) → ∀ w', Holds w' (MkO q rv bv rk s :: F) → R (.int .i64 0) w') :
    CT Tryd.prog 31 [.pointer (some ⟨q, 0, none⟩), .int .i64 v, fv] w R := by
  have H := mkO_open.1 H
  refine CT.enter (N := 29) Tryd.func31 rfl rfl rfl rfl ?_
  refine W.seq (fun K0 hK0 => ?_)
  refine W.region ?_
  refine O.ex (Ex.assign rfl) rfl ?_
  refine O.nil ?_
  refine hK0 _ _ _ ?_
  refine W.seq (fun K1 hK1 => ?_)
  refine W.seq (fun K2 hK2 => ?_)
  refine W.region ?_
  refine O.ex (Ex.move rfl) rfl ?_
  refine O.ex (Ex.lss rfl rfl) rfl ?_
  refine O.ex (Ex.move rfl) rfl ?_
  first | refine O.split_p (t := 10) rfl (fun hneg => ?_) (fun hpos => ?_) | refine O.split (t := 10) rfl (fun hneg => ?_) (fun hpos => ?_)
  · refine O.guard_f rfl rfl rfl rfl ?_
    refine O.guard_f rfl rfl rfl rfl ?_
    refine O.guard_f rfl rfl rfl rfl ?_
    refine O.guard_f rfl rfl rfl rfl ?_
    refine O.guard_f rfl rfl rfl rfl ?_
    refine O.guard_f rfl rfl rfl rfl ?_
    refine O.guard_f rfl rfl rfl rfl ?_
    refine O.ex (Ex.pick_t rfl rfl) rfl ?_
    refine O.nil ?_
    refine hK2 _ _ _ ?_
    refine W.cond_t rfl ?_
    refine W.seq (fun K3 hK3 => ?_)
    refine W.region ?_
    refine O.ex (Ex.assign rfl) rfl ?_
    refine O.nil ?_
    refine hK3 _ _ _ ?_
    refine W.seq (fun K4 hK4 => ?_)
    refine W.region ?_
    refine O.ex (Ex.move rfl) rfl ?_
    refine O.ex (Ex.assign rfl) rfl ?_
    refine O.nil ?_
    refine hK4 _ _ _ ?_
    refine W.ret ?_
    try dsimp only [thenQ, blockQ, retQ]
    first | refine ⟨_, ⟨_, _, rfl, rfl, rfl⟩, ?_⟩ | (refine retD_mark ?_; intro w H; refine ⟨_, ⟨_, _, rfl, rfl, rfl⟩, ?_⟩) | (refine retD_mark2 ?_; intro w H; refine ⟨_, ⟨_, _, rfl, rfl, rfl⟩, ?_⟩)
    first
    | exact hR
    | exact hout (by omega) _ (mkO_open.2 (Holds.to (by assumption)))
  · refine O.guard_t rfl rfl ?_
    refine O.ex (Ex.move rfl) rfl ?_
    refine O.guard_t rfl rfl ?_
    refine O.ex (Ex.move rfl) rfl ?_
    refine O.guard_t rfl rfl ?_
    refine O.ex (by first | exact Ex.nilPtr rfl | exact Ex.nilFunc rfl | exact Ex.nilYield rfl) rfl ?_
    refine O.guard_t rfl rfl ?_
    refine O.ex (by first | exact Ex.field0 fld58_0 rfl | exact Ex.field fld58_0 rfl | exact Ex.fieldS fld58_0 rfl) rfl ?_
    refine O.guard_t rfl rfl ?_
    refine O.ex (by first | exact Ex.loadP Tryd.isAgg22 rfl | exact Ex.loadR Tryd.isAgg22 rfl | exact Ex.loadIn1 Tryd.isAgg22 rfl (Holds.to (by assumption))) rfl ?_
    refine O.guard_t rfl rfl ?_
    refine O.ex (by first | exact Ex.lenR Tryd.runUnderlying22 rfl | exact Ex.lenIn Tryd.runUnderlying22 rfl | exact Ex.lenL Tryd.runUnderlying22 rfl | exact Ex.len rfl Tryd.runUnderlying22 rfl) rfl ?_
    refine O.guard_t rfl rfl ?_
    refine O.ex (Ex.geq rfl rfl) rfl ?_
    refine O.ex (Ex.pick_f rfl rfl) rfl ?_
    refine O.nil ?_
    refine hK2 _ _ _ ?_
    first | refine W.cond_p rfl (fun hge => ?_) (fun hlt => ?_) | refine W.cond_b rfl (fun hge => ?_) (fun hlt => ?_)
    · refine W.seq (fun K5 hK5 => ?_)
      refine W.region ?_
      refine O.ex (Ex.assign rfl) rfl ?_
      refine O.nil ?_
      refine hK5 _ _ _ ?_
      refine W.seq (fun K6 hK6 => ?_)
      refine W.region ?_
      refine O.ex (Ex.move rfl) rfl ?_
      refine O.ex (Ex.assign rfl) rfl ?_
      refine O.nil ?_
      refine hK6 _ _ _ ?_
      refine W.ret ?_
      try dsimp only [thenQ, blockQ, retQ]
      first | refine ⟨_, ⟨_, _, rfl, rfl, rfl⟩, ?_⟩ | (refine retD_mark ?_; intro w H; refine ⟨_, ⟨_, _, rfl, rfl, rfl⟩, ?_⟩) | (refine retD_mark2 ?_; intro w H; refine ⟨_, ⟨_, _, rfl, rfl, rfl⟩, ?_⟩)
      first
      | exact hR
      | exact hout (by omega) _ (mkO_open.2 (Holds.to (by assumption)))
    · refine W.skip ?_
      refine hK1 _ _ _ ?_
      refine W.seq (fun K7 hK7 => ?_)
      refine W.region ?_
      refine O.ex (Ex.move rfl) rfl ?_
      refine O.ex (Ex.move rfl) rfl ?_
      refine O.ex (by first | exact Ex.nilPtr rfl | exact Ex.nilFunc rfl | exact Ex.nilYield rfl) rfl ?_
      refine O.ex (by first | exact Ex.field0 fld58_0 rfl | exact Ex.field fld58_0 rfl | exact Ex.fieldS fld58_0 rfl) rfl ?_
      refine O.ex (by first | exact Ex.loadP Tryd.isAgg22 rfl | exact Ex.loadR Tryd.isAgg22 rfl | exact Ex.loadIn1 Tryd.isAgg22 rfl (Holds.to (by assumption))) rfl ?_
      refine O.ex (Ex.move rfl) rfl ?_
      refine O.ex (by first | exact Ex.idxR Tryd.runUnderlying22 Tryd.sizeOf3 rfl rfl | exact Ex.idxIn Tryd.runUnderlying22 Tryd.sizeOf3 rfl rfl | exact Ex.idxS Tryd.runUnderlying22 Tryd.sizeOf3 rfl rfl | exact Ex.idx Tryd.runUnderlying22 Tryd.sizeOf3 rfl rfl (by omega) (by omega)) rfl ?_
      refine O.ex (by first | exact Ex.loadP Tryd.isAgg3 rfl | exact Ex.loadR Tryd.isAgg3 rfl | exact Ex.loadIn1 Tryd.isAgg3 rfl (Holds.to (by assumption))) rfl ?_
      refine O.callVT rfl rfl rfl (VT.mono (hin (by omega) (by omega) w (mkO_open.2 (Holds.to (by assumption)))) ?_)
      rintro _ w hR
      refine O.ex (Ex.assign rfl) rfl ?_
      refine O.nil ?_
      refine hK7 _ _ _ ?_
      refine W.ret ?_
      try dsimp only [thenQ, blockQ, retQ]
      first | refine ⟨_, ⟨_, _, rfl, rfl, rfl⟩, ?_⟩ | (refine retD_mark ?_; intro w H; refine ⟨_, ⟨_, _, rfl, rfl, rfl⟩, ?_⟩) | (refine retD_mark2 ?_; intro w H; refine ⟨_, ⟨_, _, rfl, rfl, rfl⟩, ?_⟩)
      first
      | exact hR
      | exact hout (by omega) _ (mkO_open.2 (Holds.to (by assumption)))
theorem ofB_ct {w : World} {q : Nat} {rv bv fv : Value} {rk : List Int} {s : Nat} {v : Int} {R : Value → World → Prop} {F : List HProp} (h24 : rk.length ≤ 24) (H : Holds w (MkO q rv bv rk s :: F))
    (hin : 0 ≤ v → v < rk.length → ∀ w', Holds w' (MkO q rv bv rk s :: F) → VT Tryd.prog fv [.int .i64 (rk.getD v.toNat default)] w' R) (hout : ¬ (0 ≤ v ∧ v < rk.length) → ∀ w', Holds w' (MkO q rv bv rk s :: F) → R (.bool false) w') :
    CT Tryd.prog 42 [.pointer (some ⟨q, 0, none⟩), .int .i64 v, fv] w R := by
  have H := mkO_open.1 H
  refine CT.enter (N := 29) Tryd.func42 rfl rfl rfl rfl ?_
  refine W.seq (fun K0 hK0 => ?_)
  refine W.region ?_
  refine O.ex (Ex.assign rfl) rfl ?_
  refine O.nil ?_
  refine hK0 _ _ _ ?_
  refine W.seq (fun K1 hK1 => ?_)
  refine W.seq (fun K2 hK2 => ?_)
  refine W.region ?_
  refine O.ex (Ex.move rfl) rfl ?_
  refine O.ex (Ex.lss rfl rfl) rfl ?_
  refine O.ex (Ex.move rfl) rfl ?_
  first | refine O.split_p (t := 10) rfl (fun hneg => ?_) (fun hpos => ?_) | refine O.split (t := 10) rfl (fun hneg => ?_) (fun hpos => ?_)
  · refine O.guard_f rfl rfl rfl rfl ?_
    refine O.guard_f rfl rfl rfl rfl ?_
    refine O.guard_f rfl rfl rfl rfl ?_
    refine O.guard_f rfl rfl rfl rfl ?_
    refine O.guard_f rfl rfl rfl rfl ?_
    refine O.guard_f rfl rfl rfl rfl ?_
    refine O.guard_f rfl rfl rfl rfl ?_
    refine O.ex (Ex.pick_t rfl rfl) rfl ?_
    refine O.nil ?_
    refine hK2 _ _ _ ?_
    refine W.cond_t rfl ?_
    refine W.seq (fun K3 hK3 => ?_)
    refine W.region ?_
    refine O.ex (Ex.assign rfl) rfl ?_
    refine O.nil ?_
    refine hK3 _ _ _ ?_
    refine W.seq (fun K4 hK4 => ?_)
    refine W.region ?_
    refine O.ex (Ex.move rfl) rfl ?_
    refine O.ex (Ex.assign rfl) rfl ?_
    refine O.nil ?_
    refine hK4 _ _ _ ?_
    refine W.ret ?_
    try dsimp only [thenQ, blockQ, retQ]
    first | refine ⟨_, ⟨_, _, rfl, rfl, rfl⟩, ?_⟩ | (refine retD_mark ?_; intro w H; refine ⟨_, ⟨_, _, rfl, rfl, rfl⟩, ?_⟩) | (refine retD_mark2 ?_; intro w H; refine ⟨_, ⟨_, _, rfl, rfl, rfl⟩, ?_⟩)
    first
    | exact hR
    | exact hout (by omega) _ (mkO_open.2 (Holds.to (by assumption)))
  · refine O.guard_t rfl rfl ?_
    refine O.ex (Ex.move rfl) rfl ?_
    refine O.guard_t rfl rfl ?_
    refine O.ex (Ex.move rfl) rfl ?_
    refine O.guard_t rfl rfl ?_
    refine O.ex (by first | exact Ex.nilPtr rfl | exact Ex.nilFunc rfl | exact Ex.nilYield rfl) rfl ?_
    refine O.guard_t rfl rfl ?_
    refine O.ex (by first | exact Ex.field0 fld58_0 rfl | exact Ex.field fld58_0 rfl | exact Ex.fieldS fld58_0 rfl) rfl ?_
    refine O.guard_t rfl rfl ?_
    refine O.ex (by first | exact Ex.loadP Tryd.isAgg22 rfl | exact Ex.loadR Tryd.isAgg22 rfl | exact Ex.loadIn1 Tryd.isAgg22 rfl (Holds.to (by assumption))) rfl ?_
    refine O.guard_t rfl rfl ?_
    refine O.ex (by first | exact Ex.lenR Tryd.runUnderlying22 rfl | exact Ex.lenIn Tryd.runUnderlying22 rfl | exact Ex.lenL Tryd.runUnderlying22 rfl | exact Ex.len rfl Tryd.runUnderlying22 rfl) rfl ?_
    refine O.guard_t rfl rfl ?_
    refine O.ex (Ex.geq rfl rfl) rfl ?_
    refine O.ex (Ex.pick_f rfl rfl) rfl ?_
    refine O.nil ?_
    refine hK2 _ _ _ ?_
    first | refine W.cond_p rfl (fun hge => ?_) (fun hlt => ?_) | refine W.cond_b rfl (fun hge => ?_) (fun hlt => ?_)
    · refine W.seq (fun K5 hK5 => ?_)
      refine W.region ?_
      refine O.ex (Ex.assign rfl) rfl ?_
      refine O.nil ?_
      refine hK5 _ _ _ ?_
      refine W.seq (fun K6 hK6 => ?_)
      refine W.region ?_
      refine O.ex (Ex.move rfl) rfl ?_
      refine O.ex (Ex.assign rfl) rfl ?_
      refine O.nil ?_
      refine hK6 _ _ _ ?_
      refine W.ret ?_
      try dsimp only [thenQ, blockQ, retQ]
      first | refine ⟨_, ⟨_, _, rfl, rfl, rfl⟩, ?_⟩ | (refine retD_mark ?_; intro w H; refine ⟨_, ⟨_, _, rfl, rfl, rfl⟩, ?_⟩) | (refine retD_mark2 ?_; intro w H; refine ⟨_, ⟨_, _, rfl, rfl, rfl⟩, ?_⟩)
      first
      | exact hR
      | exact hout (by omega) _ (mkO_open.2 (Holds.to (by assumption)))
    · refine W.skip ?_
      refine hK1 _ _ _ ?_
      refine W.seq (fun K7 hK7 => ?_)
      refine W.region ?_
      refine O.ex (Ex.move rfl) rfl ?_
      refine O.ex (Ex.move rfl) rfl ?_
      refine O.ex (by first | exact Ex.nilPtr rfl | exact Ex.nilFunc rfl | exact Ex.nilYield rfl) rfl ?_
      refine O.ex (by first | exact Ex.field0 fld58_0 rfl | exact Ex.field fld58_0 rfl | exact Ex.fieldS fld58_0 rfl) rfl ?_
      refine O.ex (by first | exact Ex.loadP Tryd.isAgg22 rfl | exact Ex.loadR Tryd.isAgg22 rfl | exact Ex.loadIn1 Tryd.isAgg22 rfl (Holds.to (by assumption))) rfl ?_
      refine O.ex (Ex.move rfl) rfl ?_
      refine O.ex (by first | exact Ex.idxR Tryd.runUnderlying22 Tryd.sizeOf3 rfl rfl | exact Ex.idxIn Tryd.runUnderlying22 Tryd.sizeOf3 rfl rfl | exact Ex.idxS Tryd.runUnderlying22 Tryd.sizeOf3 rfl rfl | exact Ex.idx Tryd.runUnderlying22 Tryd.sizeOf3 rfl rfl (by omega) (by omega)) rfl ?_
      refine O.ex (by first | exact Ex.loadP Tryd.isAgg3 rfl | exact Ex.loadR Tryd.isAgg3 rfl | exact Ex.loadIn1 Tryd.isAgg3 rfl (Holds.to (by assumption))) rfl ?_
      refine O.callVT rfl rfl rfl (VT.mono (hin (by omega) (by omega) w (mkO_open.2 (Holds.to (by assumption)))) ?_)
      rintro _ w hR
      refine O.ex (Ex.assign rfl) rfl ?_
      refine O.nil ?_
      refine hK7 _ _ _ ?_
      refine W.ret ?_
      try dsimp only [thenQ, blockQ, retQ]
      first | refine ⟨_, ⟨_, _, rfl, rfl, rfl⟩, ?_⟩ | (refine retD_mark ?_; intro w H; refine ⟨_, ⟨_, _, rfl, rfl, rfl⟩, ?_⟩) | (refine retD_mark2 ?_; intro w H; refine ⟨_, ⟨_, _, rfl, rfl, rfl⟩, ?_⟩)
      first
      | exact hR
      | exact hout (by omega) _ (mkO_open.2 (Holds.to (by assumption)))
theorem inS_r {rk : List Int} {s : Nat} {v : Int} (hr : RightP rk) (h0 : 0 ≤ v) (h1 : v < rk.length) : inS s (rk.getD v.toNat default) = s.testBit (rk.getD v.toNat default).toNat := by
  have h := rk_rng hr (show v.toNat < rk.length by omega)
  have h24 := hr.1
  unfold inS
  rw [decide_eq_true (by omega), Bool.true_and]
theorem qPut_ct {w : World} {q : Nat} {rk : List Int} {s : Nat} {v : Int} {L : List HProp} (hr : RightP rk) (hs : s < 18446744073709551616) (H : Holds w (Mk q rk s :: L)) :
    CT Tryd.prog 11 [.pointer (some ⟨q, 0, none⟩), .int .i64 v] w fun u w' => u = .int .i64 (pcode rk s v) ∧ Holds w' (Mk q rk (pset rk s v) :: L) := by
  obtain ⟨rv, bv, H⟩ := mk_open.1 H
  have H := mkO_open.1 H
  have h24 := hr.1
  refine CT.enter (N := 20) Tryd.func11 rfl rfl rfl rfl ?_
  refine W.seq (fun K0 hK0 => ?_)
  refine W.region ?_
  refine O.boxP rfl (fun b2 w H => ?_)
  refine O.ex (Ex.assign rfl) rfl ?_
  refine O.nil ?_
  refine hK0 _ _ _ ?_
  refine W.seq (fun K1 hK1 => ?_)
  refine W.seq (fun K2 hK2 => ?_)
  refine W.region ?_
  refine O.ex (Ex.move rfl) rfl ?_
  refine O.ex (Ex.lss rfl rfl) rfl ?_
  refine O.ex (Ex.move rfl) rfl ?_
  first | refine O.split_p (t := 7) rfl (fun hneg => ?_) (fun hpos => ?_) | refine O.split (t := 7) rfl (fun hneg => ?_) (fun hpos => ?_)
  · refine O.guard_f rfl rfl rfl rfl ?_
    refine O.guard_f rfl rfl rfl rfl ?_
    refine O.guard_f rfl rfl rfl rfl ?_
    refine O.guard_f rfl rfl rfl rfl ?_
    refine O.guard_f rfl rfl rfl rfl ?_
    refine O.guard_f rfl rfl rfl rfl ?_
    refine O.guard_f rfl rfl rfl rfl ?_
    refine O.ex (Ex.pick_t rfl rfl) rfl ?_
    refine O.nil ?_
    refine hK2 _ _ _ ?_
    refine W.cond_t rfl ?_
    refine W.seq (fun K3 hK3 => ?_)
    refine W.region ?_
    refine O.ex (Ex.assign rfl) rfl ?_
    refine O.nil ?_
    refine hK3 _ _ _ ?_
    refine W.ret ?_
    try dsimp only [thenQ, blockQ, retQ]
    first | refine ⟨_, ⟨_, _, rfl, rfl, rfl⟩, ?_⟩ | (refine retD_mark ?_; intro w H; refine ⟨_, ⟨_, _, rfl, rfl, rfl⟩, ?_⟩) | (refine retD_mark2 ?_; intro w H; refine ⟨_, ⟨_, _, rfl, rfl, rfl⟩, ?_⟩)
    first
    | (have hc : pcode rk s v = 1 := by unfold pcode; rw [if_pos (by omega)]
       have hl : pset rk s v = s := by unfold pset; rw [if_neg (by rw [hc]; decide)]
       rw [hc, hl]
       exact ⟨rfl, mk_open.2 ⟨_, _, mkO_open.2 (Holds.to (by assumption))⟩⟩)
    | (have hi := inS_r (s := s) hr (show 0 ≤ v by omega) (by omega)
       rw [hi] at H
       have hc : pcode rk s v = if s.testBit (rk.getD v.toNat default).toNat = true then 5 else 0 := by unfold pcode; rw [if_neg (by omega)]
       have hl : pset rk s v = if s.testBit (rk.getD v.toNat default).toNat = true then s else s ||| bitN (rk.getD v.toNat default) := by
         unfold pset; rw [hc]
         by_cases h : s.testBit (rk.getD v.toNat default).toNat = true
         · rw [if_pos h, if_pos h, if_neg (by decide)]
         · rw [if_neg h, if_neg h, if_pos rfl]
       rw [hc, hl, ← hi]
       rw [← hi] at H
       exact ⟨rfl, mk_open.2 ⟨_, _, Holds.to (by assumption)⟩⟩)
  · refine O.guard_t rfl rfl ?_
    refine O.ex (Ex.move rfl) rfl ?_
    refine O.guard_t rfl rfl ?_
    refine O.ex (by first | exact Ex.loadP Tryd.isAgg25 rfl | exact Ex.loadR Tryd.isAgg25 rfl | exact Ex.loadIn1 Tryd.isAgg25 rfl (Holds.to (by assumption))) rfl ?_
    refine O.guard_t rfl rfl ?_
    refine O.ex (by first | exact Ex.nilPtr rfl | exact Ex.nilFunc rfl | exact Ex.nilYield rfl) rfl ?_
    refine O.guard_t rfl rfl ?_
    refine O.ex (by first | exact Ex.field0 fld58_0 rfl | exact Ex.field fld58_0 rfl | exact Ex.fieldS fld58_0 rfl) rfl ?_
    refine O.guard_t rfl rfl ?_
    refine O.ex (by first | exact Ex.loadP Tryd.isAgg22 rfl | exact Ex.loadR Tryd.isAgg22 rfl | exact Ex.loadIn1 Tryd.isAgg22 rfl (Holds.to (by assumption))) rfl ?_
    refine O.guard_t rfl rfl ?_
    refine O.ex (by first | exact Ex.lenR Tryd.runUnderlying22 rfl | exact Ex.lenIn Tryd.runUnderlying22 rfl | exact Ex.lenL Tryd.runUnderlying22 rfl | exact Ex.len rfl Tryd.runUnderlying22 rfl) rfl ?_
    refine O.guard_t rfl rfl ?_
    refine O.ex (Ex.geq rfl rfl) rfl ?_
    refine O.ex (Ex.pick_f rfl rfl) rfl ?_
    refine O.nil ?_
    refine hK2 _ _ _ ?_
    first | refine W.cond_p rfl (fun hge => ?_) (fun hlt => ?_) | refine W.cond_b rfl (fun hge => ?_) (fun hlt => ?_)
    · refine W.seq (fun K4 hK4 => ?_)
      refine W.region ?_
      refine O.ex (Ex.assign rfl) rfl ?_
      refine O.nil ?_
      refine hK4 _ _ _ ?_
      refine W.ret ?_
      try dsimp only [thenQ, blockQ, retQ]
      first | refine ⟨_, ⟨_, _, rfl, rfl, rfl⟩, ?_⟩ | (refine retD_mark ?_; intro w H; refine ⟨_, ⟨_, _, rfl, rfl, rfl⟩, ?_⟩) | (refine retD_mark2 ?_; intro w H; refine ⟨_, ⟨_, _, rfl, rfl, rfl⟩, ?_⟩)
      first
      | (have hc : pcode rk s v = 1 := by unfold pcode; rw [if_pos (by omega)]
         have hl : pset rk s v = s := by unfold pset; rw [if_neg (by rw [hc]; decide)]
         rw [hc, hl]
         exact ⟨rfl, mk_open.2 ⟨_, _, mkO_open.2 (Holds.to (by assumption))⟩⟩)
      | (have hi := inS_r (s := s) hr (show 0 ≤ v by omega) (by omega)
         rw [hi] at H
         have hc : pcode rk s v = if s.testBit (rk.getD v.toNat default).toNat = true then 5 else 0 := by unfold pcode; rw [if_neg (by omega)]
         have hl : pset rk s v = if s.testBit (rk.getD v.toNat default).toNat = true then s else s ||| bitN (rk.getD v.toNat default) := by
           unfold pset; rw [hc]
           by_cases h : s.testBit (rk.getD v.toNat default).toNat = true
           · rw [if_pos h, if_pos h, if_neg (by decide)]
           · rw [if_neg h, if_neg h, if_pos rfl]
         rw [hc, hl, ← hi]
         rw [← hi] at H
         exact ⟨rfl, mk_open.2 ⟨_, _, Holds.to (by assumption)⟩⟩)
    · refine W.skip ?_
      refine hK1 _ _ _ ?_
      refine W.seq (fun K5 hK5 => ?_)
      refine W.region ?_
      refine O.ex (by first | exact Ex.loadP Tryd.isAgg25 rfl | exact Ex.loadR Tryd.isAgg25 rfl | exact Ex.loadIn1 Tryd.isAgg25 rfl (Holds.to (by assumption))) rfl ?_
      refine O.ex (Ex.move rfl) rfl ?_
      refine O.ex (Ex.makeFunc rfl rfl) rfl ?_
      refine O.callF Tryd.call31 rfl rfl (CT.mono (ofC_ct (rv := rv) (bv := bv) (rk := rk) (s := s) (F := pt b2 (.cells #[.pointer (some ⟨q, 0, none⟩)] 25 (0, 0)) :: L) (R := fun u w' => u = .int .i64 (if inS s (rk.getD v.toNat default) = true then 5 else 0) ∧ Holds w' (MkO q rv bv rk (if inS s (rk.getD v.toNat default) = true then s else addB s (rk.getD v.toNat default)) :: L)) h24 (mkO_open.2 (Holds.to (by assumption))) (fun _ _ w' H => VT.fn Tryd.call32 ((put1_ct (L := L) hs (Holds.to H)).mono fun u w' h => h)) (fun h => absurd (by omega) h)) ?_)
      rintro _ w ⟨rfl, H⟩
      refine O.ex (Ex.assign rfl) rfl ?_
      refine O.nil ?_
      refine hK5 _ _ _ ?_
      refine W.ret ?_
      try dsimp only [thenQ, blockQ, retQ]
      first | refine ⟨_, ⟨_, _, rfl, rfl, rfl⟩, ?_⟩ | (refine retD_mark ?_; intro w H; refine ⟨_, ⟨_, _, rfl, rfl, rfl⟩, ?_⟩) | (refine retD_mark2 ?_; intro w H; refine ⟨_, ⟨_, _, rfl, rfl, rfl⟩, ?_⟩)
      first
      | (have hc : pcode rk s v = 1 := by unfold pcode; rw [if_pos (by omega)]
         have hl : pset rk s v = s := by unfold pset; rw [if_neg (by rw [hc]; decide)]
         rw [hc, hl]
         exact ⟨rfl, mk_open.2 ⟨_, _, mkO_open.2 (Holds.to (by assumption))⟩⟩)
      | (have hi := inS_r (s := s) hr (show 0 ≤ v by omega) (by omega)
         rw [hi] at H
         have hc : pcode rk s v = if s.testBit (rk.getD v.toNat default).toNat = true then 5 else 0 := by unfold pcode; rw [if_neg (by omega)]
         have hl : pset rk s v = if s.testBit (rk.getD v.toNat default).toNat = true then s else s ||| bitN (rk.getD v.toNat default) := by
           unfold pset; rw [hc]
           by_cases h : s.testBit (rk.getD v.toNat default).toNat = true
           · rw [if_pos h, if_pos h, if_neg (by decide)]
           · rw [if_neg h, if_neg h, if_pos rfl]
         rw [hc, hl, ← hi]
         rw [← hi] at H
         exact ⟨rfl, mk_open.2 ⟨_, _, Holds.to (by assumption)⟩⟩)
/-- Does a vertex wait? -/
def hasV (rk : List Int) (s : Nat) (v : Int) : Bool := decide (0 ≤ v ∧ v < rk.length) && s.testBit (rk.getD v.toNat default).toNat
theorem qHas_ct {w : World} {q : Nat} {rk : List Int} {s : Nat} {v : Int} {L : List HProp} (hr : RightP rk) (hs : s < 18446744073709551616) (H : Holds w (Mk q rk s :: L)) :
    CT Tryd.prog 26 [.pointer (some ⟨q, 0, none⟩), .int .i64 v] w fun u w' => u = .bool (hasV rk s v) ∧ Holds w' (Mk q rk s :: L) := by
  obtain ⟨rv, bv, H⟩ := mk_open.1 H
  have H := mkO_open.1 H
  have h24 := hr.1
  refine CT.enter (N := 13) Tryd.func26 rfl rfl rfl rfl ?_
  refine W.seq (fun K0 hK0 => ?_)
  refine W.region ?_
  refine O.ex (Ex.assign rfl) rfl ?_
  refine O.nil ?_
  refine hK0 _ _ _ ?_
  refine W.seq (fun K1 hK1 => ?_)
  refine W.region ?_
  refine O.ex (Ex.move rfl) rfl ?_
  refine O.ex (Ex.move rfl) rfl ?_
  refine O.ex (Ex.move rfl) rfl ?_
  refine O.ex (by first | exact Ex.nilPtr rfl | exact Ex.nilFunc rfl | exact Ex.nilYield rfl) rfl ?_
  refine O.ex (by first | exact Ex.field0 fld58_2 rfl | exact Ex.field fld58_2 rfl | exact Ex.fieldS fld58_2 rfl) rfl ?_
  refine O.ex (by first | exact Ex.loadP Tryd.isAgg41 rfl | exact Ex.loadR Tryd.isAgg41 rfl | exact Ex.loadIn1 Tryd.isAgg41 rfl (Holds.to (by assumption))) rfl ?_
  refine O.ex (Ex.makeFunc rfl rfl) rfl ?_
  refine O.callF Tryd.call42 rfl rfl (CT.mono (ofB_ct (rv := rv) (bv := bv) (rk := rk) (s := s) (F := L) (R := fun u w' => u = .bool (hasV rk s v) ∧ Holds w' (MkO q rv bv rk s :: L)) h24 (mkO_open.2 (Holds.to (by assumption))) (fun h0 h1 w' H => VT.fn Tryd.call20 ((has_ct (x := rk.getD v.toNat default) H hs).mono fun u w' h => ⟨by rw [h.1, inS_r hr h0 h1]; unfold hasV; rw [decide_eq_true ⟨h0, h1⟩, Bool.true_and], h.2⟩)) (fun h w' H => ⟨by unfold hasV; rw [decide_eq_false h, Bool.false_and], H⟩)) ?_)
  rintro _ w ⟨rfl, H⟩
  refine O.ex (Ex.assign rfl) rfl ?_
  refine O.nil ?_
  refine hK1 _ _ _ ?_
  refine W.ret ?_
  try dsimp only [thenQ, blockQ, retQ]
  first | refine ⟨_, ⟨_, _, rfl, rfl, rfl⟩, ?_⟩ | (refine retD_mark ?_; intro w H; refine ⟨_, ⟨_, _, rfl, rfl, rfl⟩, ?_⟩) | (refine retD_mark2 ?_; intro w H; refine ⟨_, ⟨_, _, rfl, rfl, rfl⟩, ?_⟩)
  exact ⟨rfl, mk_open.2 ⟨_, _, Holds.to (by assumption)⟩⟩
theorem qAll_ct {w : World} {q : Nat} {L : List HProp} (H : Holds w L) :
    CT Tryd.prog 14 [.pointer (some ⟨q, 0, none⟩)] w fun u w' => ∃ c, u = .func (.func 33) #[] #[.pointer (some ⟨c, 0, none⟩)] ∧ Holds w' (pt c (.cells #[.pointer (some ⟨q, 0, none⟩)] 25 (0, 0)) :: L) := by
  refine CT.enter (N := 4) Tryd.func14 rfl rfl rfl rfl ?_
  refine W.seq (fun K0 hK0 => ?_)
  refine W.region ?_
  refine O.boxP rfl (fun b1 w H => ?_)
  refine O.ex (Ex.assign rfl) rfl ?_
  refine O.nil ?_
  refine hK0 _ _ _ ?_
  refine W.seq (fun K1 hK1 => ?_)
  refine W.region ?_
  refine O.ex (Ex.makeFunc rfl rfl) rfl ?_
  refine O.ex (Ex.assign rfl) rfl ?_
  refine O.nil ?_
  refine hK1 _ _ _ ?_
  refine W.ret ?_
  try dsimp only [thenQ, blockQ, retQ]
  first | refine ⟨_, ⟨_, _, rfl, rfl, rfl⟩, ?_⟩ | (refine retD_mark ?_; intro w H; refine ⟨_, ⟨_, _, rfl, rfl, rfl⟩, ?_⟩) | (refine retD_mark2 ?_; intro w H; refine ⟨_, ⟨_, _, rfl, rfl, rfl⟩, ?_⟩)
  exact ⟨_, rfl, Holds.to (by assumption)⟩
def capQ (c q : Nat) : HProp := pt c (.cells #[.pointer (some ⟨q, 0, none⟩)] 25 (0, 0))
set_option maxHeartbeats 1000000 in
theorem qAll1_ct {w w0 : World} {c q : Nat} {rv bv : Value} {rk : List Int} {s : Nat} {fv : Value} {J : Nat → List HProp} {φ : Nat → Prop} {κ : Type} {σ : κ → Prop} {SL : κ → List HProp} (hfv : fv.cells = #[fv]) (hT : TabAt w0) (hr : RightP rk) (hs : SOk rk.length s) (hφ : φ 0)
    (H : Holds w (base w0 :: capQ c q :: MkO q rv bv rk s :: J 0))
    (hy : ∀ (F : HProp) (j : Nat) w, j < (lst s).length → φ j → Holds w (F :: base w0 :: capQ c q :: MkO q rv bv rk s :: J j) →
      VT Tryd.prog fv [.int .i64 ((alL rk s).getD j default)] w fun u w' => (u = .bool true ∧ φ (j + 1) ∧ Holds w' (F :: base w0 :: capQ c q :: MkO q rv bv rk s :: J (j + 1))) ∨ (u = .bool false ∧ ∃ a, σ a ∧ Holds w' (F :: SL a))) :
    CT Tryd.prog 33 [fv, .pointer (some ⟨c, 0, none⟩)] w fun _ w' => (φ (lst s).length ∧ Holds w' (base w0 :: capQ c q :: MkO q rv bv rk s :: J (lst s).length)) ∨ ∃ a, σ a ∧ Holds w' (SL a) := by
  have H := Holds.f2 (mkO_open.1 (Holds.to (M := MkO q rv bv rk s :: base w0 :: capQ c q :: J 0) H))
  unfold capQ at H
  refine CT.enter (N := 20) Tryd.func33 rfl rfl rfl rfl ?_
  refine W.seq (fun K0 hK0 => ?_)
  refine W.region ?_
  refine O.boxP rfl (fun b2 w H => ?_)
  rw [hfv] at H
  refine O.nil ?_
  refine hK0 _ _ _ ?_
  refine W.seq (fun K1 hK1 => ?_)
  refine W.region ?_
  refine O.ex (by first | exact Ex.loadP Tryd.isAgg25 rfl | exact Ex.loadR Tryd.isAgg25 rfl | exact Ex.loadIn1 Tryd.isAgg25 rfl (Holds.to (by assumption))) rfl ?_
  refine O.ex (by first | exact Ex.nilPtr rfl | exact Ex.nilFunc rfl | exact Ex.nilYield rfl) rfl ?_
  refine O.ex (by first | exact Ex.field0 fld58_2 rfl | exact Ex.field fld58_2 rfl | exact Ex.fieldS fld58_2 rfl) rfl ?_
  refine O.ex (by first | exact Ex.loadP Tryd.isAgg41 rfl | exact Ex.loadR Tryd.isAgg41 rfl | exact Ex.loadIn1 Tryd.isAgg41 rfl (Holds.to (by assumption))) rfl ?_
  refine O.callF Tryd.call34 rfl rfl (CT.mono (all_ct (Holds.to (by assumption))) ?_)
  rintro _ w ⟨d, rfl, H⟩
  refine O.nil ?_
  refine hK1 _ _ _ ?_
  refine W.block ?_
  have H : Holds w (base w0 :: capB d s :: pt b2 (.cells #[fv] 44 (0, 0)) :: MkO q rv bv rk s :: capQ c q :: J 0) := Holds.to (mkO_open.2 (Holds.to (by assumption)))
  refine W.rangeFunc rfl Tryd.call44 H ?_
  rintro LR kk D w hLR H
  refine CT.mono (all1_ct (c := d) (s := s) (w0 := w0) (J := fun j => LR .ready none :: dblk D :: pt b2 (.cells #[fv] 44 (0, 0)) :: MkO q rv bv rk s :: capQ c q :: J j) (φ := φ) (S := fun w' => ∃ a, σ a ∧ Holds w' (LR .done (some .ret) :: dblk D :: SL a)) hT hs.1 hφ (Holds.to (by assumption)) ?_) ?_
  · intro j w hj hφj H
    have hg := alL_get rk s j hj
    have hrn := lst_mem_lt hs (lst_get_mem s j hj)
    have hil : (invL rk).length = rk.length := invL_len rk
    refine VT.round hLR (Holds.to (by assumption)) rfl rfl ?_
    refine W.region ?_
    refine O.ex (Ex.assign rfl) rfl ?_
    refine O.nil ?_
    refine ⟨_, Holds.to (by assumption), fun w H => ?_⟩
    refine W.block ?_
    refine W.seq (fun K2 hK2 => ?_)
    have H := mkO_open.1 (Holds.to (M := MkO q rv bv rk s :: LR .busy none :: dblk D :: pt b2 (.cells #[fv] 44 (0, 0)) :: capB d s :: base w0 :: capQ c q :: J j) (by assumption))
    unfold capQ at H
    have s1 := arr_sl (T := 3) (e := Value.int .i64) (v := bv) (xs := invL rk) (Holds.to (by assumption)) (by omega)
    refine W.drawTo ([]) (.take 5 (.two 0 1 (.one 1 (.take 2 (.take 3 (.one 4 (.take 6 (.one 7 (.one 8 (.take 9 .nil)))))))) (.take 2 (.take 3 (.two 0 4 (.one 4 (.take 6 (.one 7 (.one 8 (.take 9 .nil))))) (.take 6 (.two 0 7 (.one 7 (.one 8 (.take 9 .nil))) (.one 0 (.one 8 (.take 9 .nil)))))))))) (mixed) (fun _ _ _ _ h => h) (by assumption) PP.auto (by decide +kernel) (fun w H => ?_)
    refine OQ.ex rfl (fun w H => (Ex.move rfl)) rfl ?_
    refine OQ.two rfl rfl ?_ ?_
    · refine O.ex (by first | exact Ex.loadP Tryd.isAgg44 rfl | exact Ex.loadR Tryd.isAgg44 rfl | exact Ex.loadIn1 Tryd.isAgg44 rfl (Holds.to (by assumption))) rfl ?_
      refine O.thenNil ⟨(by first | exact Holds.to (by assumption) | assumption), ?_⟩
      refine OQ.step rfl ?_
      refine O.ex (by first | exact Ex.loadP Tryd.isAgg25 rfl | exact Ex.loadR Tryd.isAgg25 rfl | exact Ex.loadIn1 Tryd.isAgg25 rfl (Holds.to (by assumption))) rfl ?_
      refine O.thenNil ⟨(by first | exact Holds.to (by assumption) | assumption), ?_⟩
      refine OQ.ex rfl (fun w H => (by first | exact Ex.nilPtr rfl | exact Ex.nilFunc rfl | exact Ex.nilYield rfl)) rfl ?_
      refine OQ.ex rfl (fun w H => (by first | exact Ex.field0 fld58_1 rfl | exact Ex.field fld58_1 rfl | exact Ex.fieldS fld58_1 rfl)) rfl ?_
      refine OQ.step rfl ?_
      refine O.ex (by first | exact Ex.loadP Tryd.isAgg22 rfl | exact Ex.loadR Tryd.isAgg22 rfl | exact Ex.loadIn1 Tryd.isAgg22 rfl (Holds.to (by assumption))) rfl ?_
      refine O.thenNil ⟨(by first | exact Holds.to (by assumption) | assumption), ?_⟩
      refine OQ.ex rfl (fun w H => (by first | exact Ex.idxR Tryd.runUnderlying22 Tryd.sizeOf3 rfl rfl | exact Ex.idxIn Tryd.runUnderlying22 Tryd.sizeOf3 rfl rfl | exact Ex.idxS Tryd.runUnderlying22 Tryd.sizeOf3 rfl rfl | exact Ex.idx Tryd.runUnderlying22 Tryd.sizeOf3 rfl rfl (by omega) (by omega))) rfl ?_
      refine OQ.step rfl ?_
      refine O.ex (by first | exact Ex.loadP Tryd.isAgg3 rfl | exact Ex.loadR Tryd.isAgg3 rfl | exact Ex.loadIn1 Tryd.isAgg3 rfl (Holds.to (by assumption))) rfl ?_
      refine O.thenNil ⟨(by first | exact Holds.to (by assumption) | assumption), ?_⟩
      refine OQ.step rfl ?_
      have H2 : Holds w (MkO q rv bv rk s :: LR .busy none :: dblk D :: pt b2 (.cells #[fv] 44 (0, 0)) :: capB d s :: base w0 :: capQ c q :: J j) := mkO_open.2 (Holds.to (by assumption))
      have HF : Holds w (star [LR .busy none, dblk D, pt b2 (.cells #[fv] 44 (0, 0)), capB d s] :: base w0 :: capQ c q :: MkO q rv bv rk s :: J j) := Holds.star.2 (show Holds w (LR .busy none :: dblk D :: pt b2 (.cells #[fv] 44 (0, 0)) :: capB d s :: base w0 :: capQ c q :: MkO q rv bv rk s :: J j) from Holds.to H2)
      rw [show (invL rk).getD ((((lst s).getD j default : Nat) : Int)).toNat default = (alL rk s).getD j default from hg.symm]
      refine O.callVT rfl rfl rfl (VT.mono (VT.two (hy _ j w hj hφj HF) (C := fun w' => Holds w' []) (fun _ _ => trivial) (fun _ _ => trivial)) ?_)
      rintro _ w ⟨b, rfl, H0, hb⟩
      refine O.thenNil ⟨(by first | exact Holds.to (by assumption) | assumption), ?_⟩
      refine OQ.ex rfl (fun w H => (by first | exact Ex.notD rfl | exact Ex.not rfl)) rfl ?_
      refine OQ.done ?_
      refine hK2 _ _ _ ?_
      first | refine W.cond_p rfl (fun hstop => ?_) (fun hgo => ?_) | refine W.cond_b rfl (fun hstop => ?_) (fun hgo => ?_)
      · refine W.ret ?_
        rcases hb with ⟨rfl, _⟩ | ⟨_, a, hσ, H⟩
        · simp at hstop
        · have H : Holds w (LR .busy none :: dblk D :: pt b2 (.cells #[fv] 44 (0, 0)) :: capB d s :: SL a) := Holds.star.1 H
          exact ⟨_, H, fun w H => .inr ⟨rfl, a, hσ, Holds.to (by assumption)⟩⟩
      · refine W.skip ?_
        rcases hb with ⟨hb, hφ2, H⟩ | ⟨rfl, _⟩
        · have H : Holds w (LR .busy none :: dblk D :: pt b2 (.cells #[fv] 44 (0, 0)) :: capB d s :: base w0 :: capQ c q :: MkO q rv bv rk s :: J (j + 1)) := Holds.star.1 H
          exact ⟨_, H, fun w H => .inl ⟨rfl, hφ2, Holds.to (by assumption)⟩⟩
        · simp at hgo
    · refine O.ex (by first | exact Ex.loadP Tryd.isAgg25 rfl | exact Ex.loadR Tryd.isAgg25 rfl | exact Ex.loadIn1 Tryd.isAgg25 rfl (Holds.to (by assumption))) rfl ?_
      refine O.thenNil ⟨(by first | exact Holds.to (by assumption) | assumption), ?_⟩
      refine OQ.ex rfl (fun w H => (by first | exact Ex.nilPtr rfl | exact Ex.nilFunc rfl | exact Ex.nilYield rfl)) rfl ?_
      refine OQ.ex rfl (fun w H => (by first | exact Ex.field0 fld58_1 rfl | exact Ex.field fld58_1 rfl | exact Ex.fieldS fld58_1 rfl)) rfl ?_
      refine OQ.two rfl rfl ?_ ?_
      · refine O.ex (by first | exact Ex.loadP Tryd.isAgg44 rfl | exact Ex.loadR Tryd.isAgg44 rfl | exact Ex.loadIn1 Tryd.isAgg44 rfl (Holds.to (by assumption))) rfl ?_
        refine O.thenNil ⟨(by first | exact Holds.to (by assumption) | assumption), ?_⟩
        refine OQ.step rfl ?_
        refine O.ex (by first | exact Ex.loadP Tryd.isAgg22 rfl | exact Ex.loadR Tryd.isAgg22 rfl | exact Ex.loadIn1 Tryd.isAgg22 rfl (Holds.to (by assumption))) rfl ?_
        refine O.thenNil ⟨(by first | exact Holds.to (by assumption) | assumption), ?_⟩
        refine OQ.ex rfl (fun w H => (by first | exact Ex.idxR Tryd.runUnderlying22 Tryd.sizeOf3 rfl rfl | exact Ex.idxIn Tryd.runUnderlying22 Tryd.sizeOf3 rfl rfl | exact Ex.idxS Tryd.runUnderlying22 Tryd.sizeOf3 rfl rfl | exact Ex.idx Tryd.runUnderlying22 Tryd.sizeOf3 rfl rfl (by omega) (by omega))) rfl ?_
        refine OQ.step rfl ?_
        refine O.ex (by first | exact Ex.loadP Tryd.isAgg3 rfl | exact Ex.loadR Tryd.isAgg3 rfl | exact Ex.loadIn1 Tryd.isAgg3 rfl (Holds.to (by assumption))) rfl ?_
        refine O.thenNil ⟨(by first | exact Holds.to (by assumption) | assumption), ?_⟩
        refine OQ.step rfl ?_
        have H2 : Holds w (MkO q rv bv rk s :: LR .busy none :: dblk D :: pt b2 (.cells #[fv] 44 (0, 0)) :: capB d s :: base w0 :: capQ c q :: J j) := mkO_open.2 (Holds.to (by assumption))
        have HF : Holds w (star [LR .busy none, dblk D, pt b2 (.cells #[fv] 44 (0, 0)), capB d s] :: base w0 :: capQ c q :: MkO q rv bv rk s :: J j) := Holds.star.2 (show Holds w (LR .busy none :: dblk D :: pt b2 (.cells #[fv] 44 (0, 0)) :: capB d s :: base w0 :: capQ c q :: MkO q rv bv rk s :: J j) from Holds.to H2)
        rw [show (invL rk).getD ((((lst s).getD j default : Nat) : Int)).toNat default = (alL rk s).getD j default from hg.symm]
        refine O.callVT rfl rfl rfl (VT.mono (VT.two (hy _ j w hj hφj HF) (C := fun w' => Holds w' []) (fun _ _ => trivial) (fun _ _ => trivial)) ?_)
        rintro _ w ⟨b, rfl, H0, hb⟩
        refine O.thenNil ⟨(by first | exact Holds.to (by assumption) | assumption), ?_⟩
        refine OQ.ex rfl (fun w H => (by first | exact Ex.notD rfl | exact Ex.not rfl)) rfl ?_
        refine OQ.done ?_
        refine hK2 _ _ _ ?_
        first | refine W.cond_p rfl (fun hstop => ?_) (fun hgo => ?_) | refine W.cond_b rfl (fun hstop => ?_) (fun hgo => ?_)
        · refine W.ret ?_
          rcases hb with ⟨rfl, _⟩ | ⟨_, a, hσ, H⟩
          · simp at hstop
          · have H : Holds w (LR .busy none :: dblk D :: pt b2 (.cells #[fv] 44 (0, 0)) :: capB d s :: SL a) := Holds.star.1 H
            exact ⟨_, H, fun w H => .inr ⟨rfl, a, hσ, Holds.to (by assumption)⟩⟩
        · refine W.skip ?_
          rcases hb with ⟨hb, hφ2, H⟩ | ⟨rfl, _⟩
          · have H : Holds w (LR .busy none :: dblk D :: pt b2 (.cells #[fv] 44 (0, 0)) :: capB d s :: base w0 :: capQ c q :: MkO q rv bv rk s :: J (j + 1)) := Holds.star.1 H
            exact ⟨_, H, fun w H => .inl ⟨rfl, hφ2, Holds.to (by assumption)⟩⟩
          · simp at hgo
      · refine O.ex (by first | exact Ex.loadP Tryd.isAgg22 rfl | exact Ex.loadR Tryd.isAgg22 rfl | exact Ex.loadIn1 Tryd.isAgg22 rfl (Holds.to (by assumption))) rfl ?_
        refine O.thenNil ⟨(by first | exact Holds.to (by assumption) | assumption), ?_⟩
        refine OQ.ex rfl (fun w H => (by first | exact Ex.idxR Tryd.runUnderlying22 Tryd.sizeOf3 rfl rfl | exact Ex.idxIn Tryd.runUnderlying22 Tryd.sizeOf3 rfl rfl | exact Ex.idxS Tryd.runUnderlying22 Tryd.sizeOf3 rfl rfl | exact Ex.idx Tryd.runUnderlying22 Tryd.sizeOf3 rfl rfl (by omega) (by omega))) rfl ?_
        refine OQ.two rfl rfl ?_ ?_
        · refine O.ex (by first | exact Ex.loadP Tryd.isAgg44 rfl | exact Ex.loadR Tryd.isAgg44 rfl | exact Ex.loadIn1 Tryd.isAgg44 rfl (Holds.to (by assumption))) rfl ?_
          refine O.thenNil ⟨(by first | exact Holds.to (by assumption) | assumption), ?_⟩
          refine OQ.step rfl ?_
          refine O.ex (by first | exact Ex.loadP Tryd.isAgg3 rfl | exact Ex.loadR Tryd.isAgg3 rfl | exact Ex.loadIn1 Tryd.isAgg3 rfl (Holds.to (by assumption))) rfl ?_
          refine O.thenNil ⟨(by first | exact Holds.to (by assumption) | assumption), ?_⟩
          refine OQ.step rfl ?_
          have H2 : Holds w (MkO q rv bv rk s :: LR .busy none :: dblk D :: pt b2 (.cells #[fv] 44 (0, 0)) :: capB d s :: base w0 :: capQ c q :: J j) := mkO_open.2 (Holds.to (by assumption))
          have HF : Holds w (star [LR .busy none, dblk D, pt b2 (.cells #[fv] 44 (0, 0)), capB d s] :: base w0 :: capQ c q :: MkO q rv bv rk s :: J j) := Holds.star.2 (show Holds w (LR .busy none :: dblk D :: pt b2 (.cells #[fv] 44 (0, 0)) :: capB d s :: base w0 :: capQ c q :: MkO q rv bv rk s :: J j) from Holds.to H2)
          rw [show (invL rk).getD ((((lst s).getD j default : Nat) : Int)).toNat default = (alL rk s).getD j default from hg.symm]
          refine O.callVT rfl rfl rfl (VT.mono (VT.two (hy _ j w hj hφj HF) (C := fun w' => Holds w' []) (fun _ _ => trivial) (fun _ _ => trivial)) ?_)
          rintro _ w ⟨b, rfl, H0, hb⟩
          refine O.thenNil ⟨(by first | exact Holds.to (by assumption) | assumption), ?_⟩
          refine OQ.ex rfl (fun w H => (by first | exact Ex.notD rfl | exact Ex.not rfl)) rfl ?_
          refine OQ.done ?_
          refine hK2 _ _ _ ?_
          first | refine W.cond_p rfl (fun hstop => ?_) (fun hgo => ?_) | refine W.cond_b rfl (fun hstop => ?_) (fun hgo => ?_)
          · refine W.ret ?_
            rcases hb with ⟨rfl, _⟩ | ⟨_, a, hσ, H⟩
            · simp at hstop
            · have H : Holds w (LR .busy none :: dblk D :: pt b2 (.cells #[fv] 44 (0, 0)) :: capB d s :: SL a) := Holds.star.1 H
              exact ⟨_, H, fun w H => .inr ⟨rfl, a, hσ, Holds.to (by assumption)⟩⟩
          · refine W.skip ?_
            rcases hb with ⟨hb, hφ2, H⟩ | ⟨rfl, _⟩
            · have H : Holds w (LR .busy none :: dblk D :: pt b2 (.cells #[fv] 44 (0, 0)) :: capB d s :: base w0 :: capQ c q :: MkO q rv bv rk s :: J (j + 1)) := Holds.star.1 H
              exact ⟨_, H, fun w H => .inl ⟨rfl, hφ2, Holds.to (by assumption)⟩⟩
            · simp at hgo
        · refine O.ex (by first | exact Ex.loadP Tryd.isAgg3 rfl | exact Ex.loadR Tryd.isAgg3 rfl | exact Ex.loadIn1 Tryd.isAgg3 rfl (Holds.to (by assumption))) rfl ?_
          refine O.thenNil ⟨(by first | exact Holds.to (by assumption) | assumption), ?_⟩
          refine OQ.step rfl ?_
          refine O.ex (by first | exact Ex.loadP Tryd.isAgg44 rfl | exact Ex.loadR Tryd.isAgg44 rfl | exact Ex.loadIn1 Tryd.isAgg44 rfl (Holds.to (by assumption))) rfl ?_
          refine O.thenNil ⟨(by first | exact Holds.to (by assumption) | assumption), ?_⟩
          refine OQ.step rfl ?_
          have H2 : Holds w (MkO q rv bv rk s :: LR .busy none :: dblk D :: pt b2 (.cells #[fv] 44 (0, 0)) :: capB d s :: base w0 :: capQ c q :: J j) := mkO_open.2 (Holds.to (by assumption))
          have HF : Holds w (star [LR .busy none, dblk D, pt b2 (.cells #[fv] 44 (0, 0)), capB d s] :: base w0 :: capQ c q :: MkO q rv bv rk s :: J j) := Holds.star.2 (show Holds w (LR .busy none :: dblk D :: pt b2 (.cells #[fv] 44 (0, 0)) :: capB d s :: base w0 :: capQ c q :: MkO q rv bv rk s :: J j) from Holds.to H2)
          rw [show (invL rk).getD ((((lst s).getD j default : Nat) : Int)).toNat default = (alL rk s).getD j default from hg.symm]
          refine O.callVT rfl rfl rfl (VT.mono (VT.two (hy _ j w hj hφj HF) (C := fun w' => Holds w' []) (fun _ _ => trivial) (fun _ _ => trivial)) ?_)
          rintro _ w ⟨b, rfl, H0, hb⟩
          refine O.thenNil ⟨(by first | exact Holds.to (by assumption) | assumption), ?_⟩
          refine OQ.ex rfl (fun w H => (by first | exact Ex.notD rfl | exact Ex.not rfl)) rfl ?_
          refine OQ.done ?_
          refine hK2 _ _ _ ?_
          first | refine W.cond_p rfl (fun hstop => ?_) (fun hgo => ?_) | refine W.cond_b rfl (fun hstop => ?_) (fun hgo => ?_)
          · refine W.ret ?_
            rcases hb with ⟨rfl, _⟩ | ⟨_, a, hσ, H⟩
            · simp at hstop
            · have H : Holds w (LR .busy none :: dblk D :: pt b2 (.cells #[fv] 44 (0, 0)) :: capB d s :: SL a) := Holds.star.1 H
              exact ⟨_, H, fun w H => .inr ⟨rfl, a, hσ, Holds.to (by assumption)⟩⟩
          · refine W.skip ?_
            rcases hb with ⟨hb, hφ2, H⟩ | ⟨rfl, _⟩
            · have H : Holds w (LR .busy none :: dblk D :: pt b2 (.cells #[fv] 44 (0, 0)) :: capB d s :: base w0 :: capQ c q :: MkO q rv bv rk s :: J (j + 1)) := Holds.star.1 H
              exact ⟨_, H, fun w H => .inl ⟨rfl, hφ2, Holds.to (by assumption)⟩⟩
            · simp at hgo
  rintro _ w (⟨hφe, H⟩ | ⟨a, hσ, H⟩)
  all_goals refine rangeEnd (Holds.to (by assumption)) (by nofun) (fun w H => ?_)
  all_goals first | have H := Holds.f2 H | skip
  all_goals try dsimp only [behind]
  · skip
    try dsimp only [thenQ, blockQ, retQ]
    first | refine ⟨_, rfl, ?_⟩ | (refine retD_mark ?_; intro w H; refine ⟨_, rfl, ?_⟩) | (refine retD_mark2 ?_; intro w H; refine ⟨_, rfl, ?_⟩)
    first
    | exact .inl ⟨hφe, Holds.to (by assumption)⟩
    | exact .inr ⟨a, hσ, Holds.to (by assumption)⟩
  · skip
    refine W.ret ?_
    try dsimp only [thenQ, blockQ, retQ]
    first | refine ⟨_, rfl, ?_⟩ | (refine retD_mark ?_; intro w H; refine ⟨_, rfl, ?_⟩) | (refine retD_mark2 ?_; intro w H; refine ⟨_, rfl, ?_⟩)
    first
    | exact .inl ⟨hφe, Holds.to (by assumption)⟩
    | exact .inr ⟨a, hσ, Holds.to (by assumption)⟩
theorem seqQ_ct {w w0 : World} {c q : Nat} {rv bv : Value} {rk : List Int} {s : Nat} {L : List HProp} (hT : TabAt w0) (hr : RightP rk) (hs : SOk rk.length s) (H : Holds w (base w0 :: capQ c q :: MkO q rv bv rk s :: L)) :
    CT Tryd.prog 46 [.slice none 0 0, .func (.func 33) #[] #[.pointer (some ⟨c, 0, none⟩)]] w fun u w' => u.oneCell' = true ∧ Holds w' (arr 3 (Value.int .i64) u (alL rk s) :: base w0 :: capQ c q :: MkO q rv bv rk s :: L) := by
  have hal := alL_len rk s
  have hle := lst_le s
  refine CT.enter (N := 13) Tryd.func46 rfl rfl rfl rfl ?_
  refine W.seq (fun K0 hK0 => ?_)
  refine W.region ?_
  refine O.boxP rfl (fun b2 w H => ?_)
  refine O.ex (Ex.assign rfl) rfl ?_
  refine O.nil ?_
  refine hK0 _ _ _ ?_
  refine W.seq (fun K1 hK1 => ?_)
  refine W.seq (fun K2 hK2 => ?_)
  refine W.region ?_
  refine O.ex (Ex.move rfl) rfl ?_
  refine O.nil ?_
  refine hK2 _ _ _ ?_
  refine W.block ?_
  have H := arr_nil (T := 3) (e := Value.int .i64) H
  have H : Holds w (slV b2 22 3 (Value.int .i64) ((alL rk s).take 0) :: base w0 :: capQ c q :: MkO q rv bv rk s :: L) := slV_open.2 ⟨_, by rw [List.take_zero]; exact Holds.to (by assumption)⟩
  refine W.rangeFunc rfl Tryd.call33 H ?_
  rintro LR kk D w hLR H
  refine CT.mono (qAll1_ct (c := c) (q := q) (rv := rv) (bv := bv) (rk := rk) (s := s) (w0 := w0) (κ := Unit) (σ := fun _ => False) (SL := fun _ => []) (J := fun j => LR .ready none :: dblk D :: slV b2 22 3 (Value.int .i64) ((alL rk s).take j) :: L) (φ := fun _ => True) rfl hT hr hs trivial (Holds.to (by assumption)) ?_) ?_
  · intro F j w hj _ H
    obtain ⟨va, H⟩ := slV_open.1 (Holds.to (by assumption))
    have htk := take_getB (alL rk s) j (by rw [hal]; exact hj)
    have htl : ((alL rk s).take j).length ≤ 64 := by rw [List.length_take]; omega
    refine VT.round hLR (Holds.to (by assumption)) rfl rfl ?_
    refine W.region ?_
    refine O.ex (Ex.assign rfl) rfl ?_
    refine O.nil ?_
    refine ⟨_, Holds.to (by assumption), fun w H => ?_⟩
    refine W.block ?_
    refine W.region ?_
    refine O.ex (by first | exact Ex.loadP Tryd.isAgg22 rfl | exact Ex.loadR Tryd.isAgg22 rfl | exact Ex.loadIn1 Tryd.isAgg22 rfl (Holds.to (by assumption))) rfl ?_
    refine O.ex (Ex.move rfl) rfl ?_
    refine O.build1 (e := Value.int .i64) Tryd.runUnderlying22 Tryd.sizeOf3 Tryd.zeroValue3 rfl (fun v10 w hv10 H => ?_)
    refine O.appendR Tryd.runUnderlying22 Tryd.typeInfo3 (bt := 8) rfl Tryd.sizeOf3 Tryd.zeroValue3 rfl rfl (fun v11 w hv11 H => ?_)
    first | refine O.storeP Tryd.sizeOf22 rfl rfl (fun w H => ?_) | refine O.storeR Tryd.sizeOf22 rfl rfl (fun w H => ?_)
    refine O.nil ?_
    rw [← htk] at H
    have H := (slV_open (b := b2) (TS := 22) (T := 3) (e := Value.int .i64) (xs := (alL rk s).take (j + 1))).2 ⟨_, Holds.to (by assumption)⟩
    exact ⟨_, Holds.to (by assumption), fun w H => .inl ⟨rfl, trivial, Holds.to (by assumption)⟩⟩
  rintro _ w (⟨_, H⟩ | ⟨_, hf, _⟩)
  rotate_left
  · exact hf.elim
  refine rangeEnd (Holds.to (by assumption)) (by nofun) (fun w H => ?_)
  obtain ⟨va, H⟩ := slV_open.1 (Holds.to (by assumption))
  rw [← hal, List.take_length] at H
  refine hK1 _ _ _ ?_
  refine W.seq (fun K3 hK3 => ?_)
  refine W.region ?_
  refine O.ex (by first | exact Ex.loadP Tryd.isAgg22 rfl | exact Ex.loadR Tryd.isAgg22 rfl | exact Ex.loadIn1 Tryd.isAgg22 rfl (Holds.to (by assumption))) rfl ?_
  refine O.ex (Ex.assign rfl) rfl ?_
  refine O.nil ?_
  refine hK3 _ _ _ ?_
  refine W.ret ?_
  try dsimp only [thenQ, blockQ, retQ]
  first | refine ⟨_, ⟨_, _, rfl, rfl, rfl⟩, ?_⟩ | (refine retD_mark ?_; intro w H; refine ⟨_, ⟨_, _, rfl, rfl, rfl⟩, ?_⟩) | (refine retD_mark2 ?_; intro w H; refine ⟨_, ⟨_, _, rfl, rfl, rfl⟩, ?_⟩)
  exact ⟨by first | assumption | exact arr_one (Holds.to (by assumption)), Holds.to (by assumption)⟩
theorem collectQ_ct {w w0 : World} {c q : Nat} {rv bv : Value} {rk : List Int} {s : Nat} {L : List HProp} (hT : TabAt w0) (hr : RightP rk) (hs : SOk rk.length s) (H : Holds w (base w0 :: capQ c q :: MkO q rv bv rk s :: L)) :
    CT Tryd.prog 37 [.func (.func 33) #[] #[.pointer (some ⟨c, 0, none⟩)]] w fun u w' => u.oneCell' = true ∧ Holds w' (arr 3 (Value.int .i64) u (alL rk s) :: base w0 :: capQ c q :: MkO q rv bv rk s :: L) := by
  refine CT.enter (N := 5) Tryd.func37 rfl rfl rfl rfl ?_
  refine W.seq (fun K0 hK0 => ?_)
  refine W.region ?_
  refine O.ex (Ex.assign rfl) rfl ?_
  refine O.nil ?_
  refine hK0 _ _ _ ?_
  refine W.seq (fun K1 hK1 => ?_)
  refine W.region ?_
  refine O.ex (Ex.move rfl) rfl ?_
  refine O.callF Tryd.call46 rfl rfl (CT.mono (seqQ_ct hT hr hs (Holds.to (by assumption))) ?_)
  rintro _ w ⟨hu, H⟩
  refine O.ex (Ex.assign rfl) rfl ?_
  refine O.nil ?_
  refine hK1 _ _ _ ?_
  refine W.ret ?_
  try dsimp only [thenQ, blockQ, retQ]
  first | refine ⟨_, ⟨_, _, rfl, rfl, rfl⟩, ?_⟩ | (refine retD_mark ?_; intro w H; refine ⟨_, ⟨_, _, rfl, rfl, rfl⟩, ?_⟩) | (refine retD_mark2 ?_; intro w H; refine ⟨_, ⟨_, _, rfl, rfl, rfl⟩, ?_⟩)
  exact ⟨hu, Holds.to (by assumption)⟩
theorem qSet_ct {w w0 : World} {q : Nat} {rk : List Int} {s : Nat} {L : List HProp} (hT : TabAt w0) (hr : RightP rk) (hs : SOk rk.length s) (H : Holds w (base w0 :: Mk q rk s :: L)) :
    CT Tryd.prog 18 [.pointer (some ⟨q, 0, none⟩)] w fun u w' => u = .int .u64 (setQ rk s : Int) ∧ Holds w' (base w0 :: Mk q rk s :: L) := by
  obtain ⟨rv, bv, H⟩ := mk_open.1 H.swap
  have hal := alL_len rk s
  have hle := lst_le s
  refine CT.enter (N := 7) Tryd.func18 rfl rfl rfl rfl ?_
  refine W.seq (fun K0 hK0 => ?_)
  refine W.region ?_
  refine O.ex (Ex.assign rfl) rfl ?_
  refine O.nil ?_
  refine hK0 _ _ _ ?_
  refine W.seq (fun K1 hK1 => ?_)
  refine W.region ?_
  refine O.ex (Ex.move rfl) rfl ?_
  refine O.callF Tryd.call14 rfl rfl (CT.mono (qAll_ct (Holds.to (by assumption))) ?_)
  rintro _ w ⟨c, rfl, H⟩
  refine O.callF Tryd.call37 rfl rfl (CT.mono (collectQ_ct (c := c) (q := q) (rv := rv) (bv := bv) (rk := rk) (s := s) (L := L) hT hr hs (Holds.to (by assumption))) ?_)
  rintro _ w ⟨hu, H⟩
  refine O.callF Tryd.call36 rfl rfl (CT.mono (ofA_ct (xs := alL rk s) (Holds.to (by assumption)) (by omega)) ?_)
  rintro _ w ⟨rfl, H⟩
  refine O.ex (Ex.assign rfl) rfl ?_
  refine O.nil ?_
  refine hK1 _ _ _ ?_
  refine W.ret ?_
  try dsimp only [thenQ, blockQ, retQ]
  first | refine ⟨_, ⟨_, _, rfl, rfl, rfl⟩, ?_⟩ | (refine retD_mark ?_; intro w H; refine ⟨_, ⟨_, _, rfl, rfl, rfl⟩, ?_⟩) | (refine retD_mark2 ?_; intro w H; refine ⟨_, ⟨_, _, rfl, rfl, rfl⟩, ?_⟩)
  exact ⟨rfl, Holds.swap (mk_open.2 ⟨rv, bv, Holds.to (by assumption)⟩)⟩
end Go.Proofs.YtgbhccpjpimgfaaDoor
