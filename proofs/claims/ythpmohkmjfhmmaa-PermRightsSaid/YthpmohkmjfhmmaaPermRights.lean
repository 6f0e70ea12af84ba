import Derived.Test.YthpmohkmjfhmmaaPerm5
--ARR
namespace Go.Proofs.Ythpmohkmjfhmmaa
open Go.Rr Go
set_option linter.unusedVariables false
theorem permRights_ct {w0 : World} {v : Value} {l : List Int} (hx : SlIn w0 1 (fun s : Int => [.int .i64 s]) v l) (hlen : l.length ≤ 9223372036854775807) :
    CT Try.prog 3 [v] w0 fun u w' => u = .bool true ∧ RowKit.Below w0.heap.size w0 w' := by
  have H := Holds.base_refl w0
  have hil := invL_len l
  have hil2 := invL_len (invL l)
  refine CT.enter (N := 58) Try.func3 rfl rfl rfl rfl ?_
  refine W.seq (fun K0 hK0 => ?_)
  refine W.region ?_
  refine O.ex (Ex.assign rfl) rfl ?_
  refine O.nil ?_
  refine hK0 _ _ _ ?_
  refine W.seq (fun K1 hK1 => ?_)
  refine W.seq (fun K2 hK2 => ?_)
  refine W.region ?_
  refine O.callF Try.call13 rfl rfl (CT.mono (awake07_ct (Holds.to (by assumption))) ?_)
  rintro _ w ⟨rfl, H⟩
  refine O.ex (by first | exact Ex.notD rfl | exact Ex.not rfl) rfl ?_
  refine O.nil ?_
  refine hK2 _ _ _ ?_
  refine W.known_f rfl (by first | rfl | decide | exact decide_eq_true hr | exact decide_eq_false (fun hh => hh hr) | exact decide_eq_true rfl) ?_
  refine W.skip ?_
  refine hK1 _ _ _ ?_
  refine W.seq (fun K3 hK3 => ?_)
  refine W.seq (fun K4 hK4 => ?_)
  refine W.region ?_
  refine O.ex (Ex.move rfl) rfl ?_
  refine O.ex (by first | exact Ex.lenR Try.runUnderlying22 rfl | exact Ex.lenIn Try.runUnderlying22 rfl | exact Ex.lenL Try.runUnderlying22 rfl | exact Ex.len rfl Try.runUnderlying22 rfl) rfl ?_
  refine O.ex (Ex.gtr rfl rfl) rfl ?_
  refine O.nil ?_
  refine hK4 _ _ _ ?_
  first | refine W.cond_p rfl (fun hbig => ?_) (fun hle => ?_) | refine W.cond_b rfl (fun hbig => ?_) (fun hle => ?_)
  · refine W.seq (fun K5 hK5 => ?_)
    refine W.region ?_
    refine O.ex (Ex.assign rfl) rfl ?_
    refine O.nil ?_
    refine hK5 _ _ _ ?_
    refine W.ret ?_
    try dsimp only [thenQ, blockQ, retQ]
    first | refine ⟨_, ⟨_, _, rfl, rfl, rfl⟩, ?_⟩ | (refine retD_mark ?_; intro w H; refine ⟨_, ⟨_, _, rfl, rfl, rfl⟩, ?_⟩) | (refine retD_mark2 ?_; intro w H; refine ⟨_, ⟨_, _, rfl, rfl, rfl⟩, ?_⟩)
    refine ⟨?_, Holds.base_below (L := []) (Holds.to (by assumption))⟩
    first
    | rfl
    | exact congrArg Value.bool (decide_eq_true (invL_invL hr))
  · refine W.skip ?_
    refine hK3 _ _ _ ?_
    refine W.seq (fun K6 hK6 => ?_)
    refine W.region ?_
    refine O.ex (Ex.move rfl) rfl ?_
    refine O.callF Try.call14 rfl rfl (CT.mono (inverseI_ct hx (Holds.to (by assumption)) hlen) ?_)
    rintro _ w hh
    rcases hh with ⟨hr, x, rfl, hxo, H⟩ | ⟨hr, rfl, H⟩
    · refine O.ex (Ex.move rfl) rfl ?_
      refine O.ex (Ex.extract rfl rfl) rfl ?_
      refine O.ex (Ex.extract rfl rfl) rfl ?_
      refine O.ex (Ex.assign rfl) rfl ?_
      refine O.ex (Ex.assign rfl) rfl ?_
      refine O.nil ?_
      refine hK6 _ _ _ ?_
      refine W.seq (fun K7 hK7 => ?_)
      refine W.seq (fun K8 hK8 => ?_)
      refine W.region ?_
      refine O.ex (Ex.move rfl) rfl ?_
      refine O.callF Try.call15 rfl rfl (CT.mono (refRightI_ct hx (Holds.to (by assumption)) hlen) ?_)
      rintro _ w ⟨rfl, H⟩
      refine O.ex (by first | exact Ex.notD rfl | exact Ex.not rfl) rfl ?_
      refine O.nil ?_
      refine hK8 _ _ _ ?_
      refine W.known_f rfl (by first | rfl | decide | exact decide_eq_true hr | exact decide_eq_false (fun hh => hh hr) | exact decide_eq_true rfl) ?_
      refine W.skip ?_
      refine hK7 _ _ _ ?_
      refine W.seq (fun K9 hK9 => ?_)
      refine W.region ?_
      refine O.ex (Ex.move rfl) rfl ?_
      refine O.callF Try.call14 rfl rfl (CT.mono (inverseA_ct (l := invL l) (Holds.to (by assumption)) (by omega)) ?_)
      rintro _ w (⟨-, y, rfl, hyo, H⟩ | ⟨hn, -⟩)
      rotate_left
      · exact absurd (invL_right hr) hn
      refine O.ex (Ex.move rfl) rfl ?_
      refine O.ex (Ex.extract rfl rfl) rfl ?_
      refine O.ex (Ex.extract rfl rfl) rfl ?_
      refine O.ex (Ex.assign rfl) rfl ?_
      refine O.ex (Ex.assign rfl) rfl ?_
      refine O.nil ?_
      refine hK9 _ _ _ ?_
      refine W.seq (fun K10 hK10 => ?_)
      refine W.region ?_
      refine O.ex (Ex.move rfl) rfl ?_
      refine O.callF Try.call16 rfl rfl (CT.mono (rightI_ct hx (Holds.to (by assumption)) hlen) ?_)
      rintro _ w ⟨rfl, H⟩
      refine O.ex (Ex.move rfl) rfl ?_
      refine O.known (t := 39) (c := true) rfl (by first | rfl | decide | exact decide_eq_true hr | exact decide_eq_false (fun hh => hh hr) | exact decide_eq_true rfl) ?_
      refine O.guard_t rfl rfl ?_
      refine O.ex (Ex.move rfl) rfl ?_
      refine O.guard_t rfl rfl ?_
      refine O.ex (Ex.eqlI rfl rfl) rfl ?_
      refine O.ex (Ex.pick_t rfl rfl) rfl ?_
      refine O.ex (Ex.move rfl) rfl ?_
      refine O.known (t := 43) (c := true) rfl (by first | rfl | decide | exact decide_eq_true hr | exact decide_eq_false (fun hh => hh hr) | exact decide_eq_true rfl) ?_
      refine O.guard_t rfl rfl ?_
      refine O.ex (Ex.move rfl) rfl ?_
      refine O.guard_t rfl rfl ?_
      refine O.ex (Ex.move rfl) rfl ?_
      refine O.guard_t rfl rfl ?_
      refine O.callF Try.call18 rfl rfl (CT.mono (refInverseI_ct hx (Holds.to (by assumption)) hr) ?_)
      rintro _ w ⟨hvi, H⟩
      refine O.guard_t rfl rfl ?_
      refine O.callF Try.call17 rfl rfl (CT.mono (intsA_ct (xs := invL l) (l := invL l) (Holds.to (by assumption)) (by omega) (by omega)) ?_)
      rintro _ w ⟨rfl, H⟩
      refine O.ex (Ex.pick_t rfl rfl) rfl ?_
      refine O.ex (Ex.move rfl) rfl ?_
      refine O.known (t := 49) (c := true) rfl (by first | rfl | decide | exact decide_eq_true hr | exact decide_eq_false (fun hh => hh hr) | exact decide_eq_true rfl) ?_
      refine O.guard_t rfl rfl ?_
      refine O.ex (Ex.move rfl) rfl ?_
      refine O.guard_t rfl rfl ?_
      refine O.ex (Ex.eqlI rfl rfl) rfl ?_
      refine O.ex (Ex.pick_t rfl rfl) rfl ?_
      refine O.ex (Ex.move rfl) rfl ?_
      refine O.known (t := 53) (c := true) rfl (by first | rfl | decide | exact decide_eq_true hr | exact decide_eq_false (fun hh => hh hr) | exact decide_eq_true rfl) ?_
      refine O.guard_t rfl rfl ?_
      refine O.ex (Ex.move rfl) rfl ?_
      refine O.guard_t rfl rfl ?_
      refine O.ex (Ex.move rfl) rfl ?_
      refine O.guard_t rfl rfl ?_
      refine O.callF Try.call17 rfl rfl (CT.mono (intsI_ct hx (xs := invL (invL l)) (Holds.to (by assumption)) (by omega) hlen) ?_)
      rintro _ w ⟨rfl, H⟩
      refine O.ex (Ex.pick_t rfl rfl) rfl ?_
      refine O.ex (Ex.assign rfl) rfl ?_
      refine O.nil ?_
      refine hK10 _ _ _ ?_
      refine W.ret ?_
      try dsimp only [thenQ, blockQ, retQ]
      first | refine ⟨_, ⟨_, _, rfl, rfl, rfl⟩, ?_⟩ | (refine retD_mark ?_; intro w H; refine ⟨_, ⟨_, _, rfl, rfl, rfl⟩, ?_⟩) | (refine retD_mark2 ?_; intro w H; refine ⟨_, ⟨_, _, rfl, rfl, rfl⟩, ?_⟩)
      refine ⟨?_, Holds.base_below (L := []) (Holds.to (by assumption))⟩
      first
      | rfl
      | exact congrArg Value.bool (decide_eq_true (invL_invL hr))
    · refine O.ex (Ex.move rfl) rfl ?_
      refine O.ex (Ex.extract rfl rfl) rfl ?_
      refine O.ex (Ex.extract rfl rfl) rfl ?_
      refine O.ex (Ex.assign rfl) rfl ?_
      refine O.ex (Ex.assign rfl) rfl ?_
      refine O.nil ?_
      refine hK6 _ _ _ ?_
      refine W.seq (fun K11 hK11 => ?_)
      refine W.seq (fun K12 hK12 => ?_)
      refine W.region ?_
      refine O.ex (Ex.move rfl) rfl ?_
      refine O.callF Try.call15 rfl rfl (CT.mono (refRightI_ct hx (Holds.to (by assumption)) hlen) ?_)
      rintro _ w ⟨rfl, H⟩
      refine O.ex (by first | exact Ex.notD rfl | exact Ex.not rfl) rfl ?_
      refine O.nil ?_
      refine hK12 _ _ _ ?_
      refine W.known_t rfl (by first | rfl | decide | exact decide_eq_true hr | exact decide_eq_false (fun hh => hh hr) | exact decide_eq_true rfl) ?_
      refine W.seq (fun K13 hK13 => ?_)
      refine W.region ?_
      refine O.ex (Ex.move rfl) rfl ?_
      refine O.callF Try.call16 rfl rfl (CT.mono (rightI_ct hx (Holds.to (by assumption)) hlen) ?_)
      rintro _ w ⟨rfl, H⟩
      refine O.ex (by first | exact Ex.notD rfl | exact Ex.not rfl) rfl ?_
      refine O.ex (Ex.move rfl) rfl ?_
      refine O.known (t := 23) (c := true) rfl (by first | rfl | decide | exact decide_eq_true hr | exact decide_eq_false (fun hh => hh hr) | exact decide_eq_true rfl) ?_
      refine O.guard_t rfl rfl ?_
      refine O.ex (Ex.move rfl) rfl ?_
      refine O.guard_t rfl rfl ?_
      refine O.ex (by first | exact Ex.lenR Try.runUnderlying22 rfl | exact Ex.lenIn Try.runUnderlying22 rfl | exact Ex.lenL Try.runUnderlying22 rfl | exact Ex.len rfl Try.runUnderlying22 rfl) rfl ?_
      refine O.guard_t rfl rfl ?_
      refine O.ex (Ex.eqlI rfl rfl) rfl ?_
      refine O.ex (Ex.pick_t rfl rfl) rfl ?_
      refine O.ex (Ex.move rfl) rfl ?_
      refine O.known (t := 28) (c := true) rfl (by first | rfl | decide | exact decide_eq_true hr | exact decide_eq_false (fun hh => hh hr) | exact decide_eq_true rfl) ?_
      refine O.guard_t rfl rfl ?_
      refine O.ex (Ex.move rfl) rfl ?_
      refine O.guard_t rfl rfl ?_
      refine O.ex (Ex.eqlI rfl rfl) rfl ?_
      refine O.ex (Ex.pick_t rfl rfl) rfl ?_
      refine O.ex (Ex.assign rfl) rfl ?_
      refine O.nil ?_
      refine hK13 _ _ _ ?_
      refine W.ret ?_
      try dsimp only [thenQ, blockQ, retQ]
      first | refine ⟨_, ⟨_, _, rfl, rfl, rfl⟩, ?_⟩ | (refine retD_mark ?_; intro w H; refine ⟨_, ⟨_, _, rfl, rfl, rfl⟩, ?_⟩) | (refine retD_mark2 ?_; intro w H; refine ⟨_, ⟨_, _, rfl, rfl, rfl⟩, ?_⟩)
      refine ⟨?_, Holds.base_below (L := []) (Holds.to (by assumption))⟩
      first
      | rfl
      | exact congrArg Value.bool (decide_eq_true (invL_invL hr))
theorem permRights_row {w0 : World} {v : Value} {l : List Int} (hx : SlIn w0 1 (fun s : Int => [.int .i64 s]) v l) (hg : ∀ x ∈ l, (Lit.int .i64 x).wf = true) (hlen : l.length ≤ maxLen) :
    CT Try.prog 3 [v] w0 fun u w' => u = .bool true ∧ RowKit.Below w0.heap.size w0 w' :=
  permRights_ct hx (by unfold maxLen at hlen; omega)
end Go.Proofs.Ythpmohkmjfhmmaa
