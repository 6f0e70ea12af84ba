import Derived.Test.YtakmbbgnnbpkoaaFacts
namespace Go.Proofs.Ytakmbbgnnbpkoaa
open Go.Rr
set_option linter.unusedVariables false
theorem md {a k : Int} (h0 : 0 ≤ a) (hk : 0 < k) (h1 : a < 2 * k) : a % k = if a < k then a else a - k := by
  split
  · exact Int.emod_eq_of_lt h0 (by assumption)
  · rw [← Int.sub_emod_right a k]; exact Int.emod_eq_of_lt (by omega) (by omega)
theorem getD_setR {α : Type} (l : List α) (i j : Nat) (x d : α) (h : i < l.length) : (l.set i x).getD j d = if j = i then x else l.getD j d := by
  simp only [List.getD_eq_getElem?_getD, List.getElem?_set]
  by_cases e : i = j
  · subst e; simp [h]
  · simp [e, Ne.symm e]
/-- What lies on the stack, from the oldest on; where it lies. -/
structure Rep {α : Type} [Inhabited α] (at_ : List α) (f : Int) (xs : List α) (k : Nat) : Prop where
  k0 : 0 < k
  k1 : k ≤ 32
  la : at_.length = k
  f0 : 0 ≤ f
  f1 : f < k
  lx : xs.length ≤ k
  get : ∀ i : Nat, i < xs.length → at_.getD ((f + i) % k).toNat default = xs.getD i default
section
variable {α : Type} [Inhabited α] {at_ : List α} {f : Int} {xs : List α} {k : Nat}
theorem Rep.new (z : α) (h0 : 0 < k) (h1 : k ≤ 32) : Rep (List.replicate k z) 0 ([] : List α) k :=
  ⟨h0, h1, by simp, by omega, by omega, by simp, fun i h => by simp at h⟩
theorem Rep.ix (h : Rep at_ f xs k) (i : Int) (h0 : 0 ≤ i) (h1 : i < k) : 0 ≤ (f + i) % k ∧ (f + i) % k < k :=
  ⟨Int.emod_nonneg _ (by have := h.k0; omega), Int.emod_lt_of_pos _ (by have := h.k0; omega)⟩
theorem Rep.ixn (h : Rep at_ f xs k) (hlt : xs.length < k) : 0 ≤ (f + xs.length) % k ∧ (f + xs.length) % k < k := h.ix _ (by omega) (by omega)
theorem Rep.push (h : Rep at_ f xs k) (v : α) (hn : xs.length < k) : Rep (at_.set ((f + xs.length) % k).toNat v) f (xs ++ [v]) k := by
  have hk := h.k0
  have hf := h.f0
  have hf1 := h.f1
  have e1 := md (a := f + (xs.length : Int)) (k := k) (by omega) (by omega) (by omega)
  refine ⟨h.k0, h.k1, by simp [h.la], h.f0, h.f1, by simp; omega, fun i hi => ?_⟩
  simp only [List.length_append, List.length_cons, List.length_nil] at hi
  have e2 := md (a := f + (i : Int)) (k := k) (by omega) (by omega) (by omega)
  rw [getD_setR _ _ _ _ _ (by rw [h.la, e1]; split <;> omega)]
  rcases Nat.lt_or_ge i xs.length with hlt | hge
  · rw [if_neg (by rw [e1, e2]; split <;> split <;> omega), h.get i hlt]
    simp [List.getD_eq_getElem?_getD, List.getElem?_append_left hlt]
  · obtain rfl : i = xs.length := by omega
    rw [if_pos rfl]
    simp [List.getD_eq_getElem?_getD]
theorem Rep.tail {x : α} (h : Rep at_ f (x :: xs) k) (z : α) : at_.getD f.toNat default = x ∧ Rep (at_.set f.toNat z) ((f + 1) % k) xs k := by
  have hk := h.k0
  have hf := h.f0
  have hf1 := h.f1
  have hlx := h.lx
  simp only [List.length_cons] at hlx
  constructor
  · have := h.get 0 (by simp)
    rw [md (by omega) (by omega) (by omega), if_pos (by omega)] at this
    simpa using this
  · have ix := h.ix 1 (by omega) 
    have e1 := md (a := f + 1) (k := k) (by omega) (by omega) (by omega)
    refine ⟨h.k0, h.k1, by simp [h.la], by rw [e1]; split <;> omega, by rw [e1]; split <;> omega, by omega, fun i hi => ?_⟩
    have e2 := md (a := f + ((i + 1 : Nat) : Int)) (k := k) (by omega) (by omega) (by omega)
    have e3 : ((f + 1) % k + i) % k = (f + ((i + 1 : Nat) : Int)) % k := by
      rw [e1, e2]; rw [md (by split <;> omega) (by omega) (by split <;> omega)]; (repeat' split) <;> omega
    rw [getD_setR _ _ _ _ _ (by rw [h.la]; omega), e3, if_neg (by rw [e2]; split <;> omega), h.get (i + 1) (by simpa using hi)]
    simp
theorem Rep.last {x : α} (h : Rep at_ f (xs ++ [x]) k) (z : α) : at_.getD ((f + xs.length) % k).toNat default = x ∧ Rep (at_.set ((f + xs.length) % k).toNat z) f xs k := by
  have hk := h.k0
  have hf := h.f0
  have hf1 := h.f1
  have hlx := h.lx
  simp only [List.length_append, List.length_cons, List.length_nil] at hlx
  have e1 := md (a := f + (xs.length : Int)) (k := k) (by omega) (by omega) (by omega)
  constructor
  · have := h.get xs.length (by simp)
    simpa [List.getD_eq_getElem?_getD] using this
  · refine ⟨h.k0, h.k1, by simp [h.la], h.f0, h.f1, by omega, fun i hi => ?_⟩
    have e2 := md (a := f + (i : Int)) (k := k) (by omega) (by omega) (by omega)
    rw [getD_setR _ _ _ _ _ (by rw [h.la, e1]; split <;> omega), if_neg (by rw [e1, e2]; split <;> split <;> omega), h.get i (by simp; omega)]
    simp [List.getD_eq_getElem?_getD, List.getElem?_append_left hi]
end
end Go.Proofs.Ytakmbbgnnbpkoaa
