/- A range over a function within a round of another one. No program in sight. -/
import Derived.RangeFuncNested
import Derived.Test.YtblapiiinbppiaaRrRange
namespace Go.Rr
set_option linter.unusedVariables false
section
variable {P : Program} {N : Nat} {Q : Q0} {l : Regs} {ds : List Deferred} {w w' : World} {L : List HProp} {ps : Array Tmp} {assign body : Code} {k0 : Nat}
variable {N0 D0 : Nat} {l0 : Regs} {ps0 : Array Tmp} {as0 bo0 : Code} {st0 : LoopState} {pe0 : Option Code}
def behindIn (P : Program) (k0 N : Nat) (Q : Q0) (l : Regs) (ds : List Deferred) : Option Code → World → Prop
  | none, w => Q .normal l ds w
  | some c, w => W P (some k0) N c Q l ds w
theorem W.rangeFuncIn {LR0 : LoopState → Option Code → HProp} {g : Operand} {f : FuncId} {p q : Array Value} (hLR0 : LR0 = fun st pe => lrec N0 l0 ps0 as0 bo0 D0 st pe k0) (hg : ev l g = some (.func (.func f) p q)) (hf : CallIs P f) (H : Holds w (LR0 st0 pe0 :: L))
    (h : ∀ (LR : LoopState → Option Code → HProp) k w1, (LR = fun st pe => lrec N l ps assign body D0 st pe k) → Holds w1 (LR .ready none :: LR0 st0 pe0 :: L) →
      CT P f (p.toList ++ [.func (.yield k) #[] #[]] ++ q.toList) w1 fun _ w2 => ∃ st pe L2, st ≠ .busy ∧ Holds w2 (LR st pe :: L2) ∧ ∀ w3, Holds w3 L2 →
        behindIn P k0 N Q l ds pe w3) : W P (some k0) N (.rangeFunc g ps assign body) Q l ds w := by
  subst hLR0
  intro a ha hd
  refine wpIn_rangeFunc fun fn _ => ?_
  have hv : a.eval g = _ := ha.eval hg
  obtain ⟨fn0, tmps0, he0, H0⟩ := lrec.open H
  have H1 := H.alloc (.loop { state := .ready, pending := none, fn := fn, tmps := a.tmps, params := ps, assign := assign, body := body, defers := D0 })
  have he : Env N { tmps := a.tmps, defers := [] } l := ⟨ha.size, ha.get⟩
  have H2 := lrec.shut he H1
  have hc := h _ _ _ rfl H2
  refine ⟨_, _, w.alloc (.loop { state := .ready, pending := none, fn := fn, tmps := a.tmps, params := ps, assign := assign, body := body, defers := D0 }), ⟨.fn (.func f) q, p ++ #[Value.func (.yield w.heap.size) #[] #[]]⟩,
    w.alloc (.loop { state := .ready, pending := none, fn := fn, tmps := a.tmps, params := ps, assign := assign, body := body, defers := D0 }), f, (p.toList ++ [Value.func (.yield w.heap.size) #[] #[]] ++ q.toList).toArray,
    w.alloc (.loop { state := .ready, pending := none, fn := fn, tmps := a.tmps, params := ps, assign := assign, body := body, defers := D0 }), run_enterLoop_inner H0.get fn a.tmps ps assign body, ?_, fun _ _ => trivial, ?_, fun h => (by cases h), ?_⟩
  · simp only [resolve, hv, Deferred.ofValue, Sem.run_pure]
    simp [Act.eval]
  · simp only [invoke]
    rw [hf]
    congr 2
    apply Array.ext'; simp
  · refine CallsIn.mono hc fun e w2 ⟨v, e1, st, pe, L2, hst, H3, hk⟩ => ?_
    subst e1
    obtain ⟨fn', tmps', he', H4⟩ := lrec.open H3
    refine ⟨_, _, run_endLoop H4.get hst, ?_⟩
    have H5 : Holds _ L2 := (H4.putObj (.loop { state := .exhausted, pending := pe, fn := fn', tmps := tmps', params := ps, assign := assign, body := body, defers := D0 })).drop
    have hk5 := hk _ H5
    have ha' : Env N { a with defers := [] ++ a.defers } l := ⟨ha.size, ha.get⟩
    cases pe with
    | none => exact ⟨l, ha', hd ▸ hk5⟩
    | some c => exact hk5 _ ha' (by simp [hd])
theorem rangeEndIn {LR : LoopState → Option Code → HProp} {st : LoopState} {pe : Option Code} {w2 : World} {L2 : List HProp} (H : Holds w2 (LR st pe :: L2)) (hst : st ≠ .busy)
    (h : ∀ w3, Holds w3 L2 → behindIn P k0 N Q l ds pe w3) :
    ∃ st pe L2, st ≠ .busy ∧ Holds w2 (LR st pe :: L2) ∧ ∀ w3, Holds w3 L2 → behindIn P k0 N Q l ds pe w3 := ⟨st, pe, L2, hst, H, h⟩
end
end Go.Rr
