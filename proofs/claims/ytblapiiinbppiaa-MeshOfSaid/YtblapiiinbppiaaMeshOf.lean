import Derived.Test.YtblapiiinbppiaaMeshOfC
--ARR
--INF
--DEEP
--LOADS loadRN
namespace Go.Proofs.Ytblapiiinbppiaa
open Go.Rr Go Gr
set_option linter.unusedVariables false
set_option maxHeartbeats 2000000 in
theorem meshOf_ct {w0 : World} {q : Int} {lv : Value} {l : List Chg} (hq : (Lit.int .u8 q).wf = true) (hx : SlIn w0 6 Chg.enc lv l) (hl : l.length ≤ 9223372036854775807) :
    CT Try.prog 14 [.int .u8 q, lv] w0 fun x w' => x = .bool true ∧ RowKit.Below w0.heap.size w0 w' := by
  have H := Holds.base_refl w0
  refine CT.enter (N := 28) Try.func14 rfl rfl rfl rfl ?_
  refine W.seq (fun K0 hK0 => ?_)
  refine W.region ?_
  refine O.ex (Ex.assign rfl) rfl ?_
  refine O.nil ?_
  refine hK0 _ _ _ ?_
  refine W.seq (fun K1 hK1 => ?_)
  refine W.seq (fun K2 hK2 => ?_)
  refine W.region ?_
  refine O.callF Try.call15 rfl rfl (CT.mono (awake12_ct (Holds.to (by assumption))) ?_)
  rintro _ w ⟨rfl, H⟩
  refine O.ex (by first | exact Ex.notD rfl | exact Ex.not rfl) rfl ?_
  refine O.nil ?_
  refine hK2 _ _ _ ?_
  refine W.known_f rfl (by first | rfl | decide) ?_
  refine W.skip ?_
  refine hK1 _ _ _ ?_
  refine W.seq (fun K3 hK3 => ?_)
  refine W.region ?_
  refine O.ex (Ex.move rfl) rfl ?_
  refine O.ex (Ex.move rfl) rfl ?_
  refine O.callF Try.call49 rfl rfl (CT.mono (made08_ct hq hx hl (Holds.to (M := base w0 :: _) (by assumption))) ?_)
  rintro _ w ⟨g, r, hg, rfl, H⟩
  refine O.ex (Ex.move rfl) rfl ?_
  refine O.ex (Ex.extract rfl rfl) rfl ?_
  refine O.ex (Ex.extract rfl rfl) rfl ?_
  refine O.ex (Ex.assign rfl) rfl ?_
  refine O.ex (Ex.assign rfl) rfl ?_
  refine O.nil ?_
  refine hK3 _ _ _ ?_
  refine W.seq (fun K4 hK4 => ?_)
  refine W.seq (fun K5 hK5 => ?_)
  refine W.region ?_
  refine O.ex (Ex.move rfl) rfl ?_
  refine O.ex (Ex.nilEq Try.runUnderlying87 rfl rfl) rfl ?_
  refine O.nil ?_
  refine hK5 _ _ _ ?_
  refine W.known_f rfl (by first | rfl | decide) ?_
  refine W.skip ?_
  refine hK4 _ _ _ ?_
  refine W.seq (fun K6 hK6 => ?_)
  refine W.region ?_
  obtain ⟨s, hs⟩ : ∃ s, s = doAll (1 + q % 24) 64 noS (l.take 150) := ⟨_, rfl⟩
  rw [← hs] at hg H
  obtain ⟨n, hn⟩ : ∃ n, n = 1 + q % 24 := ⟨_, rfl⟩
  rw [← hn] at hg H
  refine O.ex (Ex.move rfl) rfl ?_
  refine O.callF Try.call50 rfl rfl (CT.mono (mof_ct hg (Holds.to (M := Gh g n 64 s :: _) (by assumption))) ?_)
  rintro _ w ⟨m, rfl, H⟩
  refine O.ex (Ex.assign rfl) rfl ?_
  refine O.nil ?_
  refine hK6 _ _ _ ?_
  refine W.seq (fun K7 hK7 => ?_)
  refine W.region ?_
  refine O.ex (Ex.move rfl) rfl ?_
  refine O.ex (Ex.nilNe Try.runUnderlying25 rfl rfl) rfl ?_
  refine O.ex (Ex.move rfl) rfl ?_
  refine O.known (t := 22) (c := true) rfl (by first | rfl | decide) ?_
  refine O.guard_t rfl rfl ?_
  refine O.ex (Ex.move rfl) rfl ?_
  refine O.guard_t rfl rfl ?_
  refine O.ex (Ex.move rfl) rfl ?_
  refine O.guard_t rfl rfl ?_
  refine O.callF Try.call51 rfl rfl (CT.mono (rof_ct hg (Holds.to (M := Rg r n 64 s :: _) (by assumption))) ?_)
  rintro _ w ⟨k, rfl, H⟩
  refine O.guard_t rfl rfl ?_
  refine O.callF Try.call24 rfl rfl (CT.mono (same_ct (cG_good hg) (Holds.to (M := Mh m n (cG s) :: Rh k n (cG s) :: _) (by assumption))) ?_)
  rintro _ w ⟨rfl, H⟩
  refine O.ex (Ex.pick_t rfl rfl) rfl ?_
  refine O.ex (Ex.assign rfl) rfl ?_
  refine O.nil ?_
  refine hK7 _ _ _ ?_
  refine W.ret ?_
  try dsimp only [thenQ, blockQ, retQ]
  first | refine ⟨_, ⟨_, _, rfl, rfl, rfl⟩, ?_⟩ | (refine retD_mark ?_; intro w H; refine ⟨_, ⟨_, _, rfl, rfl, rfl⟩, ?_⟩) | (refine retD_mark2 ?_; intro w H; refine ⟨_, ⟨_, _, rfl, rfl, rfl⟩, ?_⟩)
  exact ⟨rfl, Holds.base_below (L := []) (Holds.to (by assumption))⟩
theorem meshOf_row {w0 : World} {q : Int} {lv : Value} {l : List Chg} (hq : (Lit.int .u8 q).wf = true) (hx : SlIn w0 6 Chg.enc lv l) (hg : ∀ x ∈ l, x.ok) (hl : l.length ≤ maxLen) :
    CT Try.prog 14 [.int .u8 q, lv] w0 fun x w' => x = .bool true ∧ RowKit.Below w0.heap.size w0 w' :=
  meshOf_ct hq hx (by unfold maxLen at hl; omega)
end Go.Proofs.Ytblapiiinbppiaa
