/- Structs compared, field by field. No program in sight. -/
import Derived.Laws.StructEq
import Derived.Test.YtakmbbgnnbpkoaaRrOps
namespace Go.Rr
open Go
theorem fieldsOf_of {P : Program} {t : TypeId} {fs : Array Field} (h : P.underlying t = some (.struct fs)) : P.fieldsOf t = fs := by unfold Program.fieldsOf; rw [h]
theorem eqStruct {P : Program} {t : TypeId} {fs : Array Field} {xs ys : Array Value} {w : World} (d : Nat) (h : P.underlying t = some (.struct fs)) (hp : P.stoodInHeld t = false) : (Op.equalIn (d + 1) t (.agg xs) (.agg ys)).run P w = (Op.eqFields d xs ys fs.toList).run P w := by
  have hf := fieldsOf_of h
  rw [run_equalIn_agg w d t xs ys (by rw [hf]; exact h) hp, hf]
theorem Ex.neqAgg {P : Program} {N : Nat} {l : Regs} {w : World} {ty : TypeId} {x y : Operand} {t yt : TypeId} {xs ys : Array Value} {r : Bool} (e1 : ev l x = some (.agg xs)) (e2 : ev l y = some (.agg ys)) (hg : P.eqGuardType P.depth t = false) (h : (binOp .neq t (.agg xs) (.agg ys)).run P w = .ok (.bool r) w) : Ex P N l (.binOp .neq t x y yt) ty w (.bool r) w :=
  Ex.neq e1 e2 (run_eqGuard_agg w .neq t x y xs ys hg) h
end Go.Rr
