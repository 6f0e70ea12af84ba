/- A field of a struct that is not in memory. No program in sight. -/
import Derived.Test.YtakmbbgnnbpkoaaRrOps
namespace Go.Rr
set_option linter.unusedVariables false
section
variable {P : Program} {N : Nat} {l : Regs} {w : World} {ty : TypeId} {x : Operand}
theorem Ex.fieldV {s f : Nat} {u v : Value} (e1 : ev l x = some u) (h : (Instr.field s u f).run P w = .ok v w) : Ex P N l (.field s x f) ty w v w :=
  ⟨nofun, fun _ _ _ a ha => by simp [execOp, ha.eval e1, h]⟩
end
/-- Three cells in one. -/
theorem all3 {a b c : Value} (ha : a.oneCell' = true) (hb : b.oneCell' = true) (hc : c.oneCell' = true) : (#[a, b, c] : Array Value).toList.all Value.oneCell' = true := by
  show (a.oneCell' && (b.oneCell' && (c.oneCell' && true))) = true
  rw [ha, hb, hc]; rfl
end Go.Rr
