/- A slice held against nil. No program in sight. -/
import Derived.Test.YthpmohkmjfhmmaaRrCap
namespace Go.Rr
set_option linter.unusedVariables false
section
variable {P : Program} {N : Nat} {l : Regs} {w : World} {ty : TypeId} {x y : Operand} {t yt : TypeId}
theorem equalIn_sl {dp : Nat} {a : Option Addr} {n c : Nat} {e : TypeId} (hu : UndIs P t (.slice e)) : (Op.equalIn (dp + 1) t (.slice a n c) (.slice none 0 0)).run P w = .ok a.isNone w := by
  cases a <;> simp [Op.equalIn, hu w]
theorem Ex.eqlSl {a : Option Addr} {n c : Nat} {e : TypeId} (hu : UndIs P t (.slice e)) (e1 : ev l x = some (.slice a n c)) (e2 : ev l y = some (.slice none 0 0)) : Ex P N l (.binOp .eql t x y yt) ty w (.bool a.isNone) w :=
  Ex.eql e1 e2 (eqGuard_plain nofun nofun) (binOp_eql nofun nofun nofun nofun (by rw [equal_eq]; exact equalIn_sl hu))
theorem Ex.neqSl {a : Option Addr} {n c : Nat} {e : TypeId} (hu : UndIs P t (.slice e)) (e1 : ev l x = some (.slice a n c)) (e2 : ev l y = some (.slice none 0 0)) : Ex P N l (.binOp .neq t x y yt) ty w (.bool a.isSome) w := by
  have : (!a.isNone) = a.isSome := by cases a <;> rfl
  rw [← this]; exact Ex.neq e1 e2 (eqGuard_plain nofun nofun) (binOp_neq nofun nofun nofun nofun (by rw [equal_eq]; exact equalIn_sl hu))
end
end Go.Rr
