/- A field of a struct that lies in a slice among the arguments. No program in sight. -/
import Derived.Test.YtakmbbgnnbpkoaaRrIn
import Derived.Test.YtakmbbgnnbpkoaaRrArrN
namespace Go.Rr
set_option linter.unusedVariables false
section
variable {P : Program} {N : Nat} {l : Regs} {w w0 : World} {ty : TypeId} {x : Operand} {t : TypeId} {α : Type} {enc : α → List Value} {v : Value} {xs : List α} {L : List HProp} {sz : Nat}
theorem Ex.fieldIn {s f n q : Nat} (hf : FieldIs P s f n) (e1 : ev l x = some (.pointer (some (aIn v q)))) (hs : SlIn w0 sz enc v xs := by assumption) (h : 0 < xs.length := by omega) : Ex P N l (.fieldAddr s x f) ty w (.pointer (some (aIn v (q + n)))) w := by
  obtain ⟨a, cap, rfl, h'⟩ := hs
  obtain ⟨b, off, rfl, _⟩ := h' 0 h
  have := Ex.field (N := N) (ty := ty) (w := w) hf e1
  rw [Nat.add_assoc] at this
  exact this
theorem Ex.loadInF [Inhabited α] {i j : Nat} {u : Value} (ht : AggIs P t false) (e1 : ev l x = some (.pointer (some (aIn v (i * sz + j))))) (H : Holds w (base w0 :: L)) (hs : SlIn w0 sz enc v xs := by assumption) (h : i < xs.length := by first | assumption | omega) (hj : j < sz := by decide) (hu : (enc (xs.getD i default))[j]? = some u := by rfl) :
    Ex P N l (.load t x) ty w u w := by
  have hc := hs.cell h hj
  refine Ex.load ht e1 (H.base_cell ?_)
  obtain ⟨a, cap, rfl, h'⟩ := hs
  obtain ⟨b, off, rfl, _⟩ := h' i h
  rw [hu] at hc
  rw [← hc]
  show w0.cell? ⟨b, off + (i * sz + j), none⟩ = w0.cell? ⟨b, off + i * sz + j, none⟩
  rw [Nat.add_assoc]
end
end Go.Rr
