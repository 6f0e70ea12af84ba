import Derived.Test.YtakmbbgnnbpkoaaFacts
import Derived.Test.YtakmbbgnnbpkoaaRrBase
namespace Go.Proofs.Ytakmbbgnnbpkoaa
open Go.Rr Go
set_option linter.unusedVariables false
theorem clone_ct {α : Type} {w : World} {e : α → Value} {v : Value} {xs : List α} {L : List HProp} (he : ∀ x, (e x).oneCell' = true) (hl : xs.length ≤ 1000) (H : Holds w (arr 3 e v xs :: L)) :
    CT Try.prog 83 [v] w fun u w' => u.oneCell' = true ∧ Holds w' (arr 3 e u xs :: arr 3 e v xs :: L) := by
  rcases arr_cases H with ⟨rfl, rfl, H⟩ | ⟨b, cap, rest, rfl, hcap, H⟩
  · skip
    refine CT.enter (N := 8) Try.func83 rfl rfl rfl rfl ?_
    refine W.seq (fun K0 hK0 => ?_)
    refine W.region ?_
    refine O.ex (Ex.assign rfl) rfl ?_
    refine O.nil ?_
    refine hK0 _ _ _ ?_
    refine W.seq (fun K1 hK1 => ?_)
    refine W.seq (fun K2 hK2 => ?_)
    refine W.region ?_
    refine O.ex (Ex.move rfl) rfl ?_
    refine O.ex (Ex.eqlSl Try.runUnderlying37 rfl rfl) rfl ?_
    refine O.nil ?_
    refine hK2 _ _ _ ?_
    refine W.known_t rfl (by first | rfl | decide | (simp; done) | omega) ?_
    refine W.seq (fun K3 hK3 => ?_)
    refine W.region ?_
    refine O.ex (Ex.assign rfl) rfl ?_
    refine O.nil ?_
    refine hK3 _ _ _ ?_
    refine W.ret ?_
    try dsimp only [thenQ, blockQ, retQ]
    first | refine ⟨_, ⟨_, _, rfl, rfl, rfl⟩, ?_⟩ | (refine retD_mark ?_; intro w H; refine ⟨_, ⟨_, _, rfl, rfl, rfl⟩, ?_⟩) | (refine retD_mark2 ?_; intro w H; refine ⟨_, ⟨_, _, rfl, rfl, rfl⟩, ?_⟩)
    exact ⟨rfl, arr_nil (arr_nil (Holds.to (by assumption)))⟩
  · have H := arr_mk hcap H
    refine CT.enter (N := 8) Try.func83 rfl rfl rfl rfl ?_
    refine W.seq (fun K0 hK0 => ?_)
    refine W.region ?_
    refine O.ex (Ex.assign rfl) rfl ?_
    refine O.nil ?_
    refine hK0 _ _ _ ?_
    refine W.seq (fun K1 hK1 => ?_)
    refine W.seq (fun K2 hK2 => ?_)
    refine W.region ?_
    refine O.ex (Ex.move rfl) rfl ?_
    refine O.ex (Ex.eqlSl Try.runUnderlying37 rfl rfl) rfl ?_
    refine O.nil ?_
    refine hK2 _ _ _ ?_
    refine W.known_f rfl (by first | rfl | decide | (simp; done) | omega) ?_
    refine W.skip ?_
    refine hK1 _ _ _ ?_
    refine W.seq (fun K3 hK3 => ?_)
    refine W.region ?_
    refine O.build0 (e := e) Try.runUnderlying37 Try.sizeOf3 (fun v5 w hv5 H => ?_)
    refine O.ex (Ex.move rfl) rfl ?_
    refine O.appendK Try.runUnderlying37 Try.typeInfo3 (bt := 8) rfl Try.sizeOf3 Try.zeroValue3 rfl rfl (fun v7 w hv7 H => ?_) (he := he)
    refine O.ex (Ex.assign rfl) rfl ?_
    refine O.nil ?_
    refine hK3 _ _ _ ?_
    refine W.ret ?_
    try dsimp only [thenQ, blockQ, retQ]
    first | refine ⟨_, ⟨_, _, rfl, rfl, rfl⟩, ?_⟩ | (refine retD_mark ?_; intro w H; refine ⟨_, ⟨_, _, rfl, rfl, rfl⟩, ?_⟩) | (refine retD_mark2 ?_; intro w H; refine ⟨_, ⟨_, _, rfl, rfl, rfl⟩, ?_⟩)
    exact ⟨hv7, Holds.to (by assumption)⟩
theorem cloneI_ct {α : Type} {w w0 : World} {e : α → Value} {v : Value} {xs : List α} {L : List HProp} (he : ∀ x, (e x).oneCell' = true) (hl : xs.length ≤ 1000) (h0 : 0 < xs.length) (hx : SlIn w0 1 (fun a => [e a]) v xs) (H : Holds w (base w0 :: L)) :
    CT Try.prog 83 [v] w fun u w' => u.oneCell' = true ∧ Holds w' (arr 3 e u xs :: base w0 :: L) := by
  have hx2 := hx
  obtain ⟨a, c, rfl, hc⟩ := hx2
  obtain ⟨b, off, rfl, -⟩ := hc 0 h0
  refine CT.enter (N := 8) Try.func83 rfl rfl rfl rfl ?_
  refine W.seq (fun K0 hK0 => ?_)
  refine W.region ?_
  refine O.ex (Ex.assign rfl) rfl ?_
  refine O.nil ?_
  refine hK0 _ _ _ ?_
  refine W.seq (fun K1 hK1 => ?_)
  refine W.seq (fun K2 hK2 => ?_)
  refine W.region ?_
  refine O.ex (Ex.move rfl) rfl ?_
  refine O.ex (Ex.eqlSl Try.runUnderlying37 rfl rfl) rfl ?_
  refine O.nil ?_
  refine hK2 _ _ _ ?_
  refine W.known_f rfl (by first | rfl | decide | (simp; done) | omega) ?_
  refine W.skip ?_
  refine hK1 _ _ _ ?_
  refine W.seq (fun K3 hK3 => ?_)
  refine W.region ?_
  refine O.build0 (e := e) Try.runUnderlying37 Try.sizeOf3 (fun v5 w hv5 H => ?_)
  refine O.ex (Ex.move rfl) rfl ?_
  refine O.appendIn (e := e) Try.runUnderlying37 Try.typeInfo3 (bt := 8) rfl Try.sizeOf3 Try.zeroValue3 rfl rfl (fun v7 w hv7 H => ?_) (xs := []) (ys := xs) hx (he := he)
  refine O.ex (Ex.assign rfl) rfl ?_
  refine O.nil ?_
  refine hK3 _ _ _ ?_
  refine W.ret ?_
  try dsimp only [thenQ, blockQ, retQ]
  first | refine ⟨_, ⟨_, _, rfl, rfl, rfl⟩, ?_⟩ | (refine retD_mark ?_; intro w H; refine ⟨_, ⟨_, _, rfl, rfl, rfl⟩, ?_⟩) | (refine retD_mark2 ?_; intro w H; refine ⟨_, ⟨_, _, rfl, rfl, rfl⟩, ?_⟩)
  exact ⟨hv7, Holds.to (by assumption)⟩
end Go.Proofs.Ytakmbbgnnbpkoaa
