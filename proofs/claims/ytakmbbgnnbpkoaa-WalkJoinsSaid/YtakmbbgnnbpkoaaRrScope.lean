/- A scope that nobody jumps into. No program in sight. -/
import Derived.Test.YtakmbbgnnbpkoaaRrBase
namespace Go.Rr
set_option linter.unusedVariables false
section
variable {P : Program} {b : Frame} {a : Act} {k : List Item} {cs : List Frame} {w : World} {F : Fence} {n : Nat} {Q : Exit → Act → World → Prop}
theorem stepR_scope {c : Code} : step P (lone (b.atR a (.code (.scope c) :: k)) cs w) = .next (lone (b.atR a (.code c :: .inScope c :: k)) cs w) :=
  step_lone_go (by simp [stepG, stepG.exec, Frame.atR])
theorem stepR_inScope {c : Code} : step P (lone (b.atR a (.inScope c :: k)) cs w) = .next (lone (b.atR a k) cs w) :=
  step_lone_go (by simp [stepG, stepG.exec, Frame.atR])
theorem wpIn_scope {c : Code} (h : c.wpIn F n P Q a w) (hn : ∀ l a w, ¬ Q (.goto l) a w) : (Code.scope c).wpIn F n P Q a w := by
  intro b k cs hro hb hr
  have h0 : (lone (b.atR a (.code (.scope c) :: k)) cs w).fenced P F := fenced_calm hb hr rfl
  obtain ⟨e, a₁, w₁, hq, harr⟩ := h b (.inScope c :: k) cs hro hb hr
  cases e with
  | normal => exact ⟨.normal, a₁, w₁, hq, .head h0 stepR_scope (StepsIn.trans harr (.one (fenced_calm hb hr rfl) stepR_inScope))⟩
  | exit id =>
    have hx : exitTo id (.inScope c :: k) = exitTo id k := by simp [exitTo]
    exact ⟨.exit id, a₁, w₁, hq, fun k' hk => .head h0 stepR_scope (harr.1 k' (by rw [hx]; exact hk)),
      fun hr' hk => let ⟨k₁, h1, h2⟩ := harr.2 hr' (by rw [hx]; exact hk); ⟨k₁, h1, .head h0 stepR_scope h2⟩⟩
  | goto l => exact absurd hq (hn _ _ _)
  | ret => exact ⟨_, a₁, w₁, hq, .of_steps (.one h0 stepR_scope) harr⟩
  | panic ch => exact ⟨_, a₁, w₁, hq, .of_steps (.one h0 stepR_scope) harr⟩
  | outgrown => exact ⟨_, a₁, w₁, hq, .of_steps (.one h0 stepR_scope) harr⟩
end
/-- No jump leaves it. -/
def scopeQ (Q : Q0) : Q0
  | .exit i, l, ds, w => Q (.exit i) l ds w
  | .normal, l, ds, w => Q .normal l ds w
  | .goto t, l, ds, w => False
  | .ret, l, ds, w => Q .ret l ds w
  | .panic c, l, ds, w => Q (.panic c) l ds w
  | .outgrown, l, ds, w => Q .outgrown l ds w
theorem W.scope {P : Program} {ro : Option Nat} {N : Nat} {Q : Q0} {l : Regs} {ds : List Deferred} {w : World} {c : Code} (h : W P ro N c (scopeQ Q) l ds w) : W P ro N (.scope c) Q l ds w :=
  fun a ha hd => wpIn_mono (wpIn_scope (h a ha hd) fun t a w ⟨l, h1, h2⟩ => h2) fun e a w ⟨l, h1, h2⟩ => by
    cases e with
    | goto t => exact h2.elim
    | _ => exact ⟨l, h1, h2⟩
end Go.Rr
