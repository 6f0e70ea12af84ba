/- Heaps, plainly: what going up and going down makes of a row of things; the first one is the least. No program in sight. -/
import Derived.Test.YtliofdfhimmjmaaRrBase
namespace Go.Proofs.Ytliofdfhimmjmaa
set_option linter.unusedVariables false
namespace Hp
/-- A strict order, total. -/
structure SO {α : Type} (lt : α → α → Prop) : Prop where
  irr : ∀ a, ¬ lt a a
  tr : ∀ a b c, lt a b → lt b c → lt a c
  tri : ∀ a b, lt a b ∨ a = b ∨ lt b a
section
variable {α : Type} {R : α → α → Prop}
theorem SO.asy (h : SO R) {a b : α} (h1 : R a b) : ¬ R b a := fun h2 => h.irr _ (h.tr _ _ _ h1 h2)
theorem SO.le_tr (h : SO R) {a b c : α} (h1 : ¬ R b a) (h2 : ¬ R c b) : ¬ R c a := fun h3 => by
  rcases h.tri a b with k | rfl | k
  · rcases h.tri b c with k2 | rfl | k2
    · exact h.irr _ (h.tr _ _ _ (h.tr _ _ _ h3 k) k2)
    · exact h1 h3
    · exact h2 k2
  · exact h2 h3
  · exact h1 k
theorem SO.lt_le (h : SO R) {a b c : α} (h1 : R a b) (h2 : ¬ R c b) : ¬ R c a := h.le_tr (h.asy h1) h2
/-- Things by what they have come to; of like ones the least. -/
def key (R : α → α → Prop) (pr : Nat → α) (a b : Nat) : Prop := R (pr a) (pr b) ∨ (pr a = pr b ∧ a < b)
theorem so_key (h : SO R) (pr : Nat → α) : SO (key R pr) where
  irr := fun a k => by
    rcases k with k | k
    · exact h.irr _ k
    · omega
  tr := fun a b c k1 k2 => by
    rcases k1 with k1 | ⟨e1, k1⟩ <;> rcases k2 with k2 | ⟨e2, k2⟩
    · exact .inl (h.tr _ _ _ k1 k2)
    · exact .inl (e2 ▸ k1)
    · exact .inl (by rw [e1]; exact k2)
    · exact .inr ⟨e1.trans e2, by omega⟩
  tri := fun a b => by
    rcases h.tri (pr a) (pr b) with k | k | k
    · exact .inl (.inl k)
    · rcases Nat.lt_trichotomy a b with q | q | q
      · exact .inl (.inr ⟨k, q⟩)
      · exact .inr (.inl q)
      · exact .inr (.inr (.inr ⟨k.symm, q⟩))
    · exact .inr (.inr (.inl k))
end
theorem gs {α : Type} [Inhabited α] (l : List α) (i j : Nat) (x : α) (h : i < l.length) : (l.set i x).getD j default = if j = i then x else l.getD j default := by
  simp only [List.getD_eq_getElem?_getD, List.getElem?_set]
  by_cases e : i = j
  · subst e; simp [h]
  · simp [e, Ne.symm e]
theorem gl {α : Type} [Inhabited α] (l : List α) (i : Nat) (h : i < l.length) : l.getD i default = l[i] := by simp [List.getD_eq_getElem?_getD, h]
theorem gm {α : Type} [Inhabited α] (l : List α) (i : Nat) (h : i < l.length) : l.getD i default ∈ l := by rw [gl l i h]; exact List.getElem_mem _
theorem mg {α : Type} [Inhabited α] {l : List α} {x : α} (h : x ∈ l) : ∃ i, i < l.length ∧ l.getD i default = x := by
  obtain ⟨i, hi, e⟩ := List.getElem_of_mem h
  exact ⟨i, hi, by rw [gl l i hi, e]⟩
theorem ext {α : Type} [Inhabited α] (l l' : List α) (h : l.length = l'.length) (hh : ∀ i, i < l.length → l.getD i default = l'.getD i default) : l = l' := by
  apply List.ext_getElem h
  intro i h1 h2
  have := hh i h1
  rwa [gl l i h1, gl l' i h2] at this
/-- Each thing stands where its place says; the others nowhere. -/
structure PI (n : Nat) (t : List Nat) (pl : List Int) : Prop where
  len : pl.length = n
  lt : ∀ i, i < t.length → t.getD i default < n
  at_ : ∀ i, i < t.length → pl.getD (t.getD i default) default = (i : Int)
  no : ∀ x, x < n → x ∉ t → pl.getD x default = -1
section
variable {n : Nat} {t : List Nat} {pl : List Int}
theorem PI.inj (h : PI n t pl) {i j : Nat} (hi : i < t.length) (hj : j < t.length) (e : t.getD i default = t.getD j default) : i = j := by
  have h1 := h.at_ i hi
  have h2 := h.at_ j hj
  rw [e, h2] at h1; omega
theorem PI.mem_iff (h : PI n t pl) {x : Nat} (hx : x < n) : x ∈ t ↔ ¬ pl.getD x default < 0 := by
  constructor
  · intro hm
    obtain ⟨i, hi, e⟩ := mg hm
    have := h.at_ i hi
    rw [e] at this; omega
  · intro hp
    refine Decidable.byContradiction fun hn => hp ?_
    rw [h.no x hx hn]; decide
theorem PI.lt_of_mem (h : PI n t pl) {x : Nat} (hm : x ∈ t) : x < n := by
  obtain ⟨i, hi, e⟩ := mg hm
  exact e ▸ h.lt i hi
theorem PI.len_le (h : PI n t pl) : t.length ≤ n := by
  have hn : t.Nodup := by
    rw [List.nodup_iff_pairwise_ne, List.pairwise_iff_getElem]
    intro i j hi hj hij e
    have := h.inj hi hj (by rw [gl t i hi, gl t j hj, e])
    omega
  have := List.Nodup.length_le_of_subset hn (l₂ := List.range n) (fun x hx => List.mem_range.2 (h.lt_of_mem hx))
  rwa [List.length_range] at this
/-- Two places changed with each other. -/
def swap (t : List Nat) (i j : Nat) : List Nat := (t.set i (t.getD j default)).set j (t.getD i default)
theorem swap_len (i j : Nat) : (swap t i j).length = t.length := by simp [swap]
theorem swap_get {i j : Nat} (hi : i < t.length) (hj : j < t.length) (k : Nat) : (swap t i j).getD k default = if k = j then t.getD i default else if k = i then t.getD j default else t.getD k default := by
  unfold swap
  rw [gs _ _ _ _ (by rw [List.length_set]; exact hj), gs _ _ _ _ hi]
theorem swap_mem {i j : Nat} (hi : i < t.length) (hj : j < t.length) (x : Nat) : x ∈ swap t i j ↔ x ∈ t := by
  constructor
  · intro h
    obtain ⟨k, hk, e⟩ := mg h
    rw [swap_len] at hk
    rw [swap_get hi hj] at e
    split at e
    · exact e ▸ gm t i hi
    · split at e
      · exact e ▸ gm t j hj
      · exact e ▸ gm t k hk
  · intro h
    obtain ⟨k, hk, e⟩ := mg h
    have hs := swap_len (t := t) i j
    by_cases e1 : k = i
    · subst e1
      have := gm (swap t k j) j (by omega)
      rw [swap_get hi hj, if_pos rfl, e] at this; exact this
    · by_cases e2 : k = j
      · subst e2
        have := gm (swap t i k) i (by omega)
        rw [swap_get hi hj, if_neg (Ne.symm e1), if_pos rfl, e] at this; exact this
      · have := gm (swap t i j) k (by omega)
        rw [swap_get hi hj, if_neg e2, if_neg e1, e] at this; exact this
theorem PI.swap (h : PI n t pl) {i j : Nat} (hi : i < t.length) (hj : j < t.length) (hij : i ≠ j) : PI n (swap t i j) ((pl.set (t.getD j default) i).set (t.getD i default) j) := by
  have li := h.lt i hi
  have lj := h.lt j hj
  have hne : t.getD i default ≠ t.getD j default := fun e => hij (h.inj hi hj e)
  refine ⟨by simp [h.len], fun k hk => ?_, fun k hk => ?_, fun x hx hn => ?_⟩
  · rw [swap_len] at hk
    rw [swap_get hi hj]; split
    · exact li
    · split
      · exact lj
      · exact h.lt k hk
  · rw [swap_len] at hk
    rw [gs _ _ _ _ (by rw [List.length_set, h.len]; exact li), gs _ _ _ _ (by rw [h.len]; exact lj), swap_get hi hj]
    by_cases e1 : k = j
    · subst e1; rw [if_pos rfl, if_pos rfl]
    · rw [if_neg e1]
      by_cases e2 : k = i
      · subst e2; rw [if_pos rfl, if_neg (Ne.symm hne), if_pos rfl]
      · rw [if_neg e2, if_neg (fun e => e2 (h.inj hk hi e)), if_neg (fun e => e1 (h.inj hk hj e))]
        exact h.at_ k hk
  · rw [swap_mem hi hj] at hn
    rw [gs _ _ _ _ (by rw [List.length_set, h.len]; exact li), gs _ _ _ _ (by rw [h.len]; exact lj), if_neg (show ¬ x = t.getD i default from fun e => hn (e ▸ gm t i hi)), if_neg (show ¬ x = t.getD j default from fun e => hn (e ▸ gm t j hj))]
    exact h.no x hx hn
end
section
variable {lt : Nat → Nat → Prop} {t : List Nat}
/-- None comes ahead of the one above it. -/
def HI (lt : Nat → Nat → Prop) (t : List Nat) : Prop := ∀ i, 0 < i → i < t.length → ¬ lt (t.getD i default) (t.getD ((i - 1) / 2) default)
def UI (lt : Nat → Nat → Prop) (t : List Nat) (p : Nat) : Prop := (∀ i, 0 < i → i < t.length → i ≠ p → ¬ lt (t.getD i default) (t.getD ((i - 1) / 2) default)) ∧
  (0 < p → ∀ i, 0 < i → i < t.length → (i - 1) / 2 = p → ¬ lt (t.getD i default) (t.getD ((p - 1) / 2) default))
theorem UI.done {p : Nat} (h : UI lt t p) (hp : 0 < p → ¬ lt (t.getD p default) (t.getD ((p - 1) / 2) default)) : HI lt t := fun i h0 h1 => by
  by_cases e : i = p
  · subst e; exact hp h0
  · exact h.1 i h0 h1 e
theorem UI.step (so : SO lt) {p : Nat} (h : UI lt t p) (h0 : 0 < p) (hp : p < t.length) (hl : lt (t.getD p default) (t.getD ((p - 1) / 2) default)) : UI lt (swap t p ((p - 1) / 2)) ((p - 1) / 2) := by
  obtain ⟨q, hq⟩ : ∃ q, q = (p - 1) / 2 := ⟨_, rfl⟩
  rw [← hq] at hl ⊢
  have hqt : q < t.length := by omega
  have g := fun k => swap_get (t := t) hp hqt k
  constructor
  · intro i hi0 hi1 hiq
    rw [swap_len] at hi1
    rw [g, g, if_neg hiq]
    by_cases e1 : i = p
    · subst e1; rw [if_pos rfl, ← hq, if_pos rfl]; exact so.asy hl
    · rw [if_neg e1]
      by_cases e2 : (i - 1) / 2 = q
      · rw [if_pos e2]
        have := h.1 i hi0 hi1 e1
        rw [e2] at this
        exact so.lt_le hl this
      · rw [if_neg e2]
        by_cases e3 : (i - 1) / 2 = p
        · rw [if_pos e3, hq]; exact h.2 h0 i hi0 hi1 e3
        · rw [if_neg e3]; exact h.1 i hi0 hi1 e1
  · intro hq0 i hi0 hi1 hiq
    rw [swap_len] at hi1
    have h2 := h.1 q hq0 hqt (by omega)
    rw [g, g, if_neg (by omega), if_neg (show ¬ (q - 1) / 2 = q by omega), if_neg (show ¬ (q - 1) / 2 = p by omega)]
    by_cases e1 : i = p
    · subst e1; rw [if_pos rfl]; exact h2
    · rw [if_neg e1]
      have := h.1 i hi0 hi1 e1
      rw [hiq] at this
      exact so.le_tr h2 this
def DI (lt : Nat → Nat → Prop) (t : List Nat) (p : Nat) : Prop := (∀ i, 0 < i → i < t.length → (i - 1) / 2 ≠ p → ¬ lt (t.getD i default) (t.getD ((i - 1) / 2) default)) ∧
  (0 < p → ∀ i, 0 < i → i < t.length → (i - 1) / 2 = p → ¬ lt (t.getD i default) (t.getD ((p - 1) / 2) default))
theorem DI.done {p : Nat} (h : DI lt t p) (hp : ∀ i, 0 < i → i < t.length → (i - 1) / 2 = p → ¬ lt (t.getD i default) (t.getD p default)) : HI lt t := fun i h0 h1 => by
  by_cases e : (i - 1) / 2 = p
  · rw [e]; exact hp i h0 h1 e
  · exact h.1 i h0 h1 e
theorem DI.step (so : SO lt) {p c : Nat} (h : DI lt t p) (hc0 : 0 < c) (hc : c < t.length) (hcp : (c - 1) / 2 = p) (hl : lt (t.getD c default) (t.getD p default))
    (hmin : ∀ i, 0 < i → i < t.length → (i - 1) / 2 = p → ¬ lt (t.getD i default) (t.getD c default)) : DI lt (swap t p c) c := by
  have hpt : p < t.length := by omega
  have hpc : p ≠ c := by omega
  have g := fun k => swap_get (t := t) hpt hc k
  constructor
  · intro i hi0 hi1 hic
    rw [swap_len] at hi1
    rw [g, g]
    by_cases e1 : i = c
    · subst e1
      rw [if_pos rfl, hcp, if_neg hpc, if_pos rfl]; exact so.asy hl
    · rw [if_neg e1, if_neg hic]
      by_cases e2 : i = p
      · subst e2
        rw [if_pos rfl, if_neg (by omega)]
        exact h.2 hi0 c hc0 hc hcp
      · rw [if_neg e2]
        by_cases e3 : (i - 1) / 2 = p
        · rw [if_pos e3]; exact hmin i hi0 hi1 e3
        · rw [if_neg e3]; exact h.1 i hi0 hi1 e3
  · intro _ i hi0 hi1 hic
    rw [swap_len] at hi1
    rw [g, g, hcp, if_neg hpc, if_pos rfl, if_neg (by omega), if_neg (by omega)]
    have := h.1 i hi0 hi1 (by omega)
    rwa [hic] at this
theorem HI.min (so : SO lt) (h : HI lt t) : ∀ i, i < t.length → ¬ lt (t.getD i default) (t.getD 0 default)
  | 0, _ => so.irr _
  | i + 1, hi => so.le_tr (HI.min so h ((i + 1 - 1) / 2) (by omega)) (h (i + 1) (by omega) hi)
  termination_by i => i
  decreasing_by omega
end
end Hp
end Go.Proofs.Ytliofdfhimmjmaa
