import Derived.Test.YtliofdfhimmjmaaRefG3
import Derived.Test.YtliofdfhimmjmaaBits
--ARR
--INF
--DEEP
--LOADS loadRT loadRA loadRN loadRM
namespace Go.Proofs.Ytliofdfhimmjmaa
open Go.Rr Go Gr
set_option linter.unusedVariables false
theorem keyArc (a : Arc) (w : World) (d : Nat) : (Op.equalIn (d + 1 + 1 + 1) 42 a.val a.val).run Try.prog w = .ok true w := by
  unfold Arc.val
  rw [eqStruct (d + 2) Try.underlying42 Try.stoodInHeld42]
  simp [Op.eqFields, part, Try.isAgg3 w, run_equalIn_int w (d + 1) 3 .i64 .i64 _ _ Try.underlying3, equalIn_bool (dp := d + 1) (w := w) (b := a.cl) (c := a.cl) Try.runUnderlying4]
theorem eqArc (a : Arc) (w : World) : (binOp .neq 42 a.val a.val).run Try.prog w = .ok (.bool false) w := by
  have h := keyArc a w 9997
  unfold Arc.val at h ⊢
  rw [run_neq_struct, show (Op.equalIn 10000 42 _ _).run Try.prog w = .ok true w from h]
  rfl
end Go.Proofs.Ytliofdfhimmjmaa
