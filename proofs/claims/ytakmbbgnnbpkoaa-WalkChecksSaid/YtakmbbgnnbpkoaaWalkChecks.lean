import Derived.Test.YtakmbbgnnbpkoaaLaw09
--ARR
--INF
--DEEP
namespace Go.Proofs.Ytakmbbgnnbpkoaa
open Go.Rr Go Gr
set_option linter.unusedVariables false
set_option maxHeartbeats 2000000 in
theorem walkChecks_ct {w0 : World} {q v u : Int} {lv iv : Value} {l : List Chg} {xs : List Int} (hq : (Lit.int .u8 q).wf = true) (hx : SlIn w0 6 Chg.enc lv l) (hl : l.length ≤ 9223372036854775807) (hy : SlIn w0 1 (fun s : Int => [.int .i64 s]) iv xs) :
    CT Try.prog 8 [.int .u8 q, lv, .int .i64 v, .int .i64 u, iv] w0 fun x w' => x = .bool true ∧ RowKit.Below w0.heap.size w0 w' := by
  have H := Holds.base_refl w0
  refine CT.enter (N := 46) Try.func8 rfl rfl rfl rfl ?_
  refine W.seq (fun K0 hK0 => ?_)
  refine W.region ?_
  refine O.ex (Ex.assign rfl) rfl ?_
  refine O.nil ?_
  refine hK0 _ _ _ ?_
  refine W.seq (fun K1 hK1 => ?_)
  refine W.seq (fun K2 hK2 => ?_)
  refine W.region ?_
  refine O.callF Try.call39 rfl rfl (CT.mono (awake09_ct (Holds.to (by assumption))) ?_)
  rintro _ w ⟨rfl, H⟩
  refine O.ex (by first | exact Ex.notD rfl | exact Ex.not rfl) rfl ?_
  refine O.nil ?_
  refine hK2 _ _ _ ?_
  refine W.known_f rfl (by first | exact decide_eq_true rfl | rfl | decide) ?_
  refine W.skip ?_
  refine hK1 _ _ _ ?_
  refine W.seq (fun K3 hK3 => ?_)
  refine W.region ?_
  refine O.ex (Ex.move rfl) rfl ?_
  refine O.ex (Ex.move rfl) rfl ?_
  refine O.callF Try.call18 rfl rfl (CT.mono (made08_ct hq hx hl (Holds.to (by assumption))) ?_)
  rintro _ w ⟨g, r, hg, rfl, H⟩
  refine O.ex (Ex.move rfl) rfl ?_
  refine O.ex (Ex.extract rfl rfl) rfl ?_
  refine O.ex (Ex.extract rfl rfl) rfl ?_
  refine O.ex (Ex.assign rfl) rfl ?_
  refine O.ex (Ex.assign rfl) rfl ?_
  refine O.nil ?_
  refine hK3 _ _ _ ?_
  refine W.seq (fun K4 hK4 => ?_)
  refine W.seq (fun K5 hK5 => ?_)
  refine W.region ?_
  refine O.ex (Ex.move rfl) rfl ?_
  refine O.ex (Ex.nilEq Try.runUnderlying24 rfl rfl) rfl ?_
  refine O.nil ?_
  refine hK5 _ _ _ ?_
  refine W.known_f rfl (by first | exact decide_eq_true rfl | rfl | decide) ?_
  refine W.skip ?_
  refine hK4 _ _ _ ?_
  refine W.seq (fun K6 hK6 => ?_)
  refine W.seq (fun K7 hK7 => ?_)
  refine W.region ?_
  refine O.ex (Ex.move rfl) rfl ?_
  refine O.ex (by first | exact Ex.lenR Try.runUnderlying37 rfl | exact Ex.lenIn Try.runUnderlying37 rfl | exact Ex.lenL Try.runUnderlying37 rfl | exact Ex.len rfl Try.runUnderlying37 rfl) rfl ?_
  refine O.ex (Ex.gtr rfl rfl) rfl ?_
  refine O.nil ?_
  refine hK7 _ _ _ ?_
  first | refine W.cond_p rfl (fun hlong => ?_) (fun hshort => ?_) | refine W.cond_b rfl (fun hlong => ?_) (fun hshort => ?_)
  · refine W.seq (fun K8 hK8 => ?_)
    refine W.region ?_
    refine O.ex (Ex.assign rfl) rfl ?_
    refine O.nil ?_
    refine hK8 _ _ _ ?_
    refine W.ret ?_
    try dsimp only [thenQ, blockQ, retQ]
    first | refine ⟨_, ⟨_, _, rfl, rfl, rfl⟩, ?_⟩ | (refine retD_mark ?_; intro w H; refine ⟨_, ⟨_, _, rfl, rfl, rfl⟩, ?_⟩) | (refine retD_mark2 ?_; intro w H; refine ⟨_, ⟨_, _, rfl, rfl, rfl⟩, ?_⟩)
    exact ⟨by first | rfl | exact congrArg Value.bool (decide_eq_true rfl), Holds.base_below (L := []) (Holds.to (by assumption))⟩
  · refine W.skip ?_
    refine hK6 _ _ _ ?_
    refine W.seq (fun K9 hK9 => ?_)
    refine W.region ?_
    have hl2 : xs.length ≤ 200 := by omega
    refine O.ex (Ex.move rfl) rfl ?_
    refine O.ex (Ex.move rfl) rfl ?_
    refine O.ex (Ex.move rfl) rfl ?_
    refine O.ex (Ex.move rfl) rfl ?_
    refine O.callF Try.call40 rfl rfl (CT.mono (wcheck_ct (g := g) hg (Rd.ofIn hy) hl2 (Holds.to (by assumption))) ?_)
    rintro _ w ⟨rfl, H⟩
    refine O.ex (Ex.move rfl) rfl ?_
    refine O.ex (Ex.move rfl) rfl ?_
    refine O.ex (Ex.move rfl) rfl ?_
    refine O.ex (Ex.move rfl) rfl ?_
    refine O.callF Try.call41 rfl rfl (CT.mono (rcheck_ct (r := r) hg (Rd.ofIn hy) hl2 (Holds.to (by assumption))) ?_)
    rintro _ w ⟨rfl, H⟩
    refine O.ex (Ex.eqlI rfl rfl) rfl ?_
    refine O.ex (Ex.move rfl) rfl ?_
    refine O.known (t := 37) (c := true) rfl (by first | exact decide_eq_true rfl | rfl | decide) ?_
    refine O.guard_t rfl rfl ?_
    refine O.ex (Ex.move rfl) rfl ?_
    refine O.guard_t rfl rfl ?_
    refine O.ex (Ex.move rfl) rfl ?_
    refine O.guard_t rfl rfl ?_
    refine O.callF Try.call42 rfl rfl (CT.mono (wsum_ct (g := g) hg (Rd.ofIn hy) hl2 (Holds.to (by assumption))) ?_)
    rintro _ w ⟨rfl, H⟩
    refine O.guard_t rfl rfl ?_
    refine O.ex (Ex.move rfl) rfl ?_
    refine O.guard_t rfl rfl ?_
    refine O.ex (Ex.move rfl) rfl ?_
    refine O.guard_t rfl rfl ?_
    refine O.callF Try.call43 rfl rfl (CT.mono (rsum_ct (r := r) hg (Rd.ofIn hy) hl2 (Holds.to (by assumption))) ?_)
    rintro _ w ⟨rfl, H⟩
    refine O.guard_t rfl rfl ?_
    refine O.ex (Ex.eqlI rfl rfl) rfl ?_
    refine O.ex (Ex.pick_t rfl rfl) rfl ?_
    refine O.ex (Ex.assign rfl) rfl ?_
    refine O.nil ?_
    refine hK9 _ _ _ ?_
    refine W.ret ?_
    try dsimp only [thenQ, blockQ, retQ]
    first | refine ⟨_, ⟨_, _, rfl, rfl, rfl⟩, ?_⟩ | (refine retD_mark ?_; intro w H; refine ⟨_, ⟨_, _, rfl, rfl, rfl⟩, ?_⟩) | (refine retD_mark2 ?_; intro w H; refine ⟨_, ⟨_, _, rfl, rfl, rfl⟩, ?_⟩)
    exact ⟨by first | rfl | exact congrArg Value.bool (decide_eq_true rfl), Holds.base_below (L := []) (Holds.to (by assumption))⟩
theorem walkChecks_row {w0 : World} {q v u : Int} {lv iv : Value} {l : List Chg} {xs : List Int} (hq : (Lit.int .u8 q).wf = true) (hx : SlIn w0 6 Chg.enc lv l) (hg : ∀ x ∈ l, x.ok) (hl : l.length ≤ maxLen) (hv : (Lit.int .i64 v).wf = true) (hu : (Lit.int .i64 u).wf = true)
    (hy : SlIn w0 1 (fun s : Int => [.int .i64 s]) iv xs) (hg2 : ∀ x ∈ xs, (Lit.int .i64 x).wf = true) (hm : xs.length ≤ maxLen) :
    CT Try.prog 8 [.int .u8 q, lv, .int .i64 v, .int .i64 u, iv] w0 fun x w' => x = .bool true ∧ RowKit.Below w0.heap.size w0 w' :=
  walkChecks_ct hq hx (by unfold maxLen at hl; omega) hy
end Go.Proofs.Ytakmbbgnnbpkoaa
