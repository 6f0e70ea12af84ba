/- From a reading of the arguments to what the walk is told of them. No program in sight. -/
import Derived.Deep.Slices
import Derived.WalkKit
import Derived.ProofKit
import Derived.OpenShut
import Derived.ShutString
import Derived.ChangeOld
import Derived.SizedLaws
import Derived.Test.YtakmbbgnnbpkoaaRrIn
namespace Go.Rr
set_option linter.unusedVariables false
section
variable {H : Type} {enc : TypeId × Value → H} {P : Program} {w : World} {base : Nat} {held : Bool}
/-- Cells that read as a value of type e are laid out as some x. -/
def ElemOk {α : Type} (P : Program) (e : TypeId) (lay : α → List Value) (φ : α → Prop) : Prop :=
  ∀ (H : Type) (enc : TypeId × Value → H) (w : World) (base : Nat) (spare : Nat → Bool) (held : Bool) (fuel : Nat) (cs : List Value) (x : DataW H × List MemPlace), DataW.trod enc P w base spare held fuel e cs = some x → ∃ a, cs = lay a ∧ φ a
theorem ElemOk.int {e : TypeId} {k : IntKind} (hu : P.underlying e = some (.int k)) : ElemOk P e (fun n : Int => [.int k n]) (fun n => (Lit.int k n).wf = true) := fun _ _ _ _ _ _ _ _ _ h => by
  obtain ⟨n, h1, _, h2⟩ := DataW.trod_int hu h; exact ⟨n, h1, h2⟩
theorem ElemOk.bool {e : TypeId} (hu : P.underlying e = some .bool) : ElemOk P e (fun b : Bool => [.bool b]) (fun _ => True) := fun _ _ _ _ _ _ _ _ _ h => by
  obtain ⟨n, h1, _⟩ := DataW.trod_bool hu h; exact ⟨n, h1, trivial⟩
theorem ElemOk.string {e : TypeId} (hu : P.underlying e = some .string) : ElemOk P e (fun s : ByteArray => [.string s]) (fun s => s.size ≤ maxLen) := fun _ _ _ _ _ _ _ _ _ h => by
  obtain ⟨n, h1, _, h2⟩ := DataW.trod_string hu h; exact ⟨n, h1, h2⟩
theorem slIn_of_trod {α : Type} [Inhabited α] {lay : α → List Value} {φ : α → Prop} {t e sz : Nat} {v : Value} {d : DataW H} {ps : List MemPlace} (ht : P.underlying t = some (.slice e)) (hc : P.cellsOf e = sz) (hz : 0 < sz) (hl : ∀ a, (lay a).length = sz)
    (he : ElemOk P e lay φ) (hv : ∃ a len cap, v = .slice a len cap) (h : DataW.Trod enc P w 0 (fun _ => true) true t v d ps) : ∃ xs : List α, SlIn w sz lay v xs ∧ (∀ x ∈ xs, φ x) ∧ xs.length ≤ maxLen := by
  obtain ⟨a, len, cap, rfl⟩ := hv
  obtain ⟨fuel, hf⟩ := h
  rcases Deep.open_slice ht hf with ⟨h1, h2⟩ | ⟨a', len', cap', m, n, D, Pl, h1, hb, hlc, hm, hmm, hx, hel⟩
  · simp [Value.cells] at h1
    obtain ⟨rfl, rfl, rfl⟩ := h1
    exact ⟨[], ⟨none, 0, rfl, fun i h => absurd h (Nat.not_lt_zero _)⟩, (fun x hx => by cases hx), Nat.zero_le _⟩
  · simp [Value.cells] at h1
    obtain ⟨rfl, rfl, rfl⟩ := h1
    have hlm : len ≤ m := by rw [hmm]; simpa using hlc
    have hch : ∀ i, i < len → ∃ x : α, φ x ∧ w.cells? 0 (a'.add (i * sz)) sz = some (lay x) := fun i hi => by
      obtain ⟨cs, h1, h2⟩ := hel i (by omega)
      obtain ⟨x, h3, h4⟩ := he _ _ _ _ _ _ _ _ _ h2
      rw [hc] at h1
      exact ⟨x, h4, h3 ▸ h1⟩
    obtain ⟨f, hf⟩ := Deep.choose_lt hch
    refine ⟨(List.range len).map f, ⟨some a', cap, by simp, fun i hi => ?_⟩, fun x hx => ?_, ?_⟩
    · simp only [List.length_map, List.length_range] at hi
      obtain ⟨h1, h2⟩ := hf i hi
      obtain ⟨_, h3, h4⟩ := World.cells?_some h2
      have hspot : a'.spot = none := by
        have h5 := h4 0 hz
        rw [List.getElem?_eq_getElem (by omega)] at h5
        have := World.cell?_spot h5
        unfold Addr.add at this
        split at this
        · split at this
          · exact this
          · rename_i h7 h6
            cases h8 : a'.spot with
            | none => rfl
            | some s =>
              have h0 := (hf 0 (by omega)).2
              obtain ⟨_, h3', h4'⟩ := World.cells?_some h0
              have h5' := h4' 0 hz
              rw [List.getElem?_eq_getElem (by omega)] at h5'
              have := World.cell?_spot h5'
              simp [Addr.add, h8] at this
        · cases h8 : a'.spot with
          | none => rfl
          | some s =>
            have h0 := (hf 0 (by omega)).2
            obtain ⟨_, h3', h4'⟩ := World.cells?_some h0
            have h5' := h4' 0 hz
            rw [List.getElem?_eq_getElem (by omega)] at h5'
            have := World.cell?_spot h5'
            simp [Addr.add, h8] at this
      obtain ⟨b, off, spot⟩ := a'
      simp only at hspot
      subst hspot
      refine ⟨b, off, rfl, by simp [hl], fun j hj => ?_⟩
      have := h4 j hj
      rw [add_off, add_off] at this
      simpa [Nat.add_assoc] using this
    · simp only [List.mem_map, List.mem_range] at hx
      obtain ⟨i, hi, rfl⟩ := hx
      exact (hf i hi).1
    · simp; omega
end
end Go.Rr
