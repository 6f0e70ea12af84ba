/- A slice of numbers that is only read, whatever holds its cells. No program in sight. -/
import Derived.Test.YtakmbbgnnbpkoaaRrBase
namespace Go.Rr
set_option linter.unusedVariables false
def Rd (S : HProp) (v : Value) (xs : List Int) : Prop :=
  ∀ w L, Holds w (S :: L) → (∃ a cap, v = .slice a xs.length cap ∧ (0 < xs.length → ∃ b off, a = some ⟨b, off, none⟩)) ∧ ∀ i, i < xs.length → w.cell? (aIn v i) = some (.int .i64 (xs.getD i default))
theorem Rd.form {w : World} {L : List HProp} {S : HProp} {v : Value} {xs : List Int} (h : Rd S v xs) (H : Holds w (S :: L)) : ∃ a cap, v = .slice a xs.length cap := by
  obtain ⟨⟨a, cap, h1, _⟩, _⟩ := h w L H
  exact ⟨a, cap, h1⟩
theorem Rd.nil {S : HProp} : Rd S (.slice none 0 0) [] := fun w L H => ⟨⟨none, 0, rfl, fun h => absurd h (Nat.lt_irrefl _)⟩, fun i h => absurd h (Nat.not_lt_zero _)⟩
theorem Rd.ofArr {T : Nat} {v : Value} {xs : List Int} : Rd (arr T (Value.int .i64) v xs) v xs := fun w L H => by
  rcases arr_cases H with ⟨rfl, rfl, _⟩ | ⟨b, cap, rest, rfl, hc, H'⟩
  · exact ⟨⟨none, 0, rfl, fun h => absurd h (Nat.lt_irrefl _)⟩, fun i h => absurd h (Nat.not_lt_zero _)⟩
  · refine ⟨⟨_, cap, rfl, fun _ => ⟨b, 0, rfl⟩⟩, fun i hi => ?_⟩
    have := arr_cell H hi
    show w.cell? (⟨b, 0 + i, none⟩ : Addr) = _
    rw [Nat.zero_add]
    exact this
theorem Rd.ofIn {w0 : World} {v : Value} {xs : List Int} (h : SlIn w0 1 (fun s : Int => [.int .i64 s]) v xs) : Rd (base w0) v xs := fun w L H => by
  have hs := h
  obtain ⟨a, cap, rfl, h'⟩ := h
  refine ⟨⟨a, cap, rfl, fun h => ?_⟩, fun i hi => ?_⟩
  · obtain ⟨b, off, e, _⟩ := h' 0 h; exact ⟨b, off, e⟩
  · refine H.base_cell ?_
    have hc := hs.cell hi (j := 0) (by decide)
    obtain ⟨b, off, rfl, _⟩ := h' i hi
    simpa [aIn] using hc
/-- The first part of a slice of one's own. -/
theorem Rd.cut {T b cap i : Nat} {xs : List Int} (hi : i ≤ xs.length) : Rd (arr T (Value.int .i64) (.slice (some ⟨b, 0, none⟩) xs.length cap) xs) (.slice (some ⟨b, 0, none⟩) i cap) (xs.take i) := fun w L H => by
  obtain ⟨-, h⟩ := Rd.ofArr w L H
  refine ⟨⟨_, cap, by rw [List.length_take, Nat.min_eq_left hi], fun _ => ⟨b, 0, rfl⟩⟩, fun j hj => ?_⟩
  rw [List.length_take] at hj
  have := h j (by omega)
  rw [show (xs.take i).getD j default = xs.getD j default by rw [List.getD_eq_getElem?_getD, List.getD_eq_getElem?_getD, List.getElem?_take_of_lt (by omega)]]
  exact this
theorem Rd.hi {T i : Nat} {v : Value} {xs : List Int} (hi : i ≤ xs.length) : Rd (arr T (Value.int .i64) v xs) (hiV v i) (xs.take i) := fun w L H => by
  rcases arr_cases H with ⟨rfl, rfl, _⟩ | ⟨b, cap, rest, rfl, hc, H'⟩
  · obtain rfl : i = 0 := by simpa using hi
    exact Rd.nil w L H
  · exact Rd.cut hi w L H
section
variable {P : Program} {ro : Option Nat} {N : Nat} {Q : Q0} {l : Regs} {ds : List Deferred} {w w' : World} {ops : Array Oper} {os : List Oper}
variable {d : Tmp} {ty : TypeId} {pos : String} {af : Array Edge} {x y : Operand} {t T yt : TypeId} {L : List HProp} {k : IntKind} {S : HProp} {v : Value} {xs : List Int}
theorem Ex.idxRd {E : Nat} {i : Int} (hR : Rd S v xs) (hu : UndIs P t (.slice E)) (hz : SizeIs P E 1) (e1 : ev l x = some v) (e2 : ev l y = some (.int k i)) (H : Holds w (S :: L) := by exact Holds.to (by assumption)) (h0 : 0 ≤ i := by first | assumption | omega) (h1 : i < xs.length := by first | assumption | omega) :
    Ex P N l (.indexAddr t x y) ty w (.pointer (some (aIn v i.toNat))) w := by
  obtain ⟨⟨a, cap, rfl, h⟩, _⟩ := hR w L H
  obtain ⟨b, off, rfl⟩ := h (by omega)
  have := Ex.idx (w := w) (ty := ty) (N := N) hu hz e1 e2 h0 h1
  simpa [aIn] using this
theorem Ex.loadRd {i : Nat} (hR : Rd S v xs) (ht : AggIs P t false) (e1 : ev l x = some (.pointer (some (aIn v i)))) (H : Holds w (S :: L) := by exact Holds.to (by assumption)) (h1 : i < xs.length := by first | assumption | omega) :
    Ex P N l (.load t x) ty w (.int .i64 (xs.getD i default)) w := by
  obtain ⟨_, h⟩ := hR w L H
  exact Ex.load ht e1 (h i h1)
end
end Go.Rr
