/- A struct among the arguments: out of its reading. No program in sight. -/
import Derived.Test.YtakmbbgnnbpkoaaRrBase
namespace Go.Rr
open Go.ChangeShapes Go.WideShapes Go.ChangeAt Go.RowKit
set_option linter.unusedVariables false
theorem struct_of_trod {H : Type} {enc : TypeId × Value → H} {P : Program} {w : World} {α : Type} {lay : α → List Value} {φ : α → Prop} {t b : Nat} {r : Reach} {fs : Array Field} {v : Value} {d : DataW H} {ps : List MemPlace} (ht : P.underlying t = some (.struct fs)) (he : ElemOk P t lay φ)
    (hv : Value.okWide P w r b t v) (h : DataW.Trod enc P w 0 (fun _ => true) true t v d ps) : ∃ x : α, v = .agg (lay x).toArray ∧ φ x := by
  unfold Value.okWide at hv
  simp only [ht] at hv
  obtain ⟨cs, rfl, -⟩ := hv
  obtain ⟨fuel, hf⟩ := h
  obtain ⟨x, h3, h4⟩ := he _ _ _ _ _ _ _ _ _ hf
  refine ⟨x, ?_, h4⟩
  rw [← h3]; rfl
end Go.Rr
