/- Meshes, plainly: distances that stop at their end, steps, what contracting a vertex makes of them, and that it keeps all distances. No program in sight. -/
import Derived.Test.YtliofdfhimmjmaaRrBase
namespace Go.Proofs.Ytliofdfhimmjmaa
open Go.Rr
set_option linter.unusedVariables false
def two (a b : Int) : Int := if a = 4611686018427387906 ∨ b = 4611686018427387906 then 4611686018427387906 else if 4611686018427387904 < a + b then 4611686018427387905 else a + b
abbrev Dst (a : Int) : Prop := 0 ≤ a ∧ a ≤ 4611686018427387906
theorem two_dst {a b : Int} (ha : Dst a) (hb : Dst b) : Dst (two a b) := by unfold two Dst at *; split <;> (try split) <;> omega
theorem two_mono {a b a' b' : Int} (ha : Dst a) (hb : Dst b) (ha' : Dst a') (hb' : Dst b') (h1 : a ≤ a') (h2 : b ≤ b') : two a b ≤ two a' b' := by
  unfold two Dst at *; (repeat' split) <;> omega
theorem two_assoc {a b c : Int} (ha : Dst a) (hb : Dst b) (hc : Dst c) : two (two a b) c = two a (two b c) := by
  unfold two Dst at *; (repeat' split) <;> omega
theorem two_zero {a : Int} (ha : Dst a) : two a 0 = a := by unfold two Dst at *; (repeat' split) <;> omega
theorem zero_two {a : Int} (ha : Dst a) : two 0 a = a := by unfold two Dst at *; (repeat' split) <;> omega
theorem le_two_left {a b : Int} (ha : Dst a) (hb : Dst b) : a ≤ two a b := by unfold two Dst at *; (repeat' split) <;> omega
theorem le_two_right {a b : Int} (ha : Dst a) (hb : Dst b) : b ≤ two a b := by unfold two Dst at *; (repeat' split) <;> omega
theorem two_none_left {b : Int} : two 4611686018427387906 b = 4611686018427387906 := by unfold two; simp
theorem two_none_right {a : Int} : two a 4611686018427387906 = 4611686018427387906 := by unfold two; simp
theorem two_lt {a b : Int} (ha : Dst a) (hb : Dst b) : two a b < 4611686018427387906 ↔ a ≠ 4611686018427387906 ∧ b ≠ 4611686018427387906 := by
  unfold two Dst at *; (repeat' split) <;> omega
theorem two_one {a b : Int} (ha : Dst a) (hb : Dst b) (h : 1 ≤ a) : 1 ≤ two a b := by have := le_two_left ha hb; omega
/-- Steps among the vertices below n; elsewhere none. -/
structure Good (n : Int) (c : Int → Int → Int) : Prop where
  n1 : 1 ≤ n
  n2 : n ≤ 24
  lo : ∀ u w, 1 ≤ c u w
  hi : ∀ u w, c u w ≤ 4611686018427387906
  dg : ∀ u, c u u = 4611686018427387906
  out : ∀ u w, ¬ (0 ≤ u ∧ u < n ∧ 0 ≤ w ∧ w < n) → c u w = 4611686018427387906
theorem Good.dst {n : Int} {c : Int → Int → Int} (h : Good n c) (u w : Int) : Dst (c u w) := ⟨by have := h.lo u w; omega, h.hi u w⟩
def noneM : Int → Int → Int := fun _ _ => 4611686018427387906
theorem good_none {n : Int} (h1 : 1 ≤ n) (h2 : n ≤ 24) : Good n noneM := ⟨h1, h2, fun _ _ => by unfold noneM; omega, fun _ _ => by unfold noneM; omega, fun _ => rfl, fun _ _ _ => rfl⟩
def okP (n u w g : Int) : Prop := 0 ≤ u ∧ u < n ∧ 0 ≤ w ∧ w < n ∧ u ≠ w ∧ 1 ≤ g ∧ g ≤ 4611686018427387906
instance {n u w g : Int} : Decidable (okP n u w g) := by unfold okP; infer_instance
def putD (n : Int) (c : Int → Int → Int) (u w g : Int) : Int → Int → Int := if okP n u w g then upd2 c u w g else c
theorem good_upd {n : Int} {c : Int → Int → Int} (h : Good n c) {u w g : Int} (ho : okP n u w g) : Good n (upd2 c u w g) := by
  unfold okP at ho
  refine ⟨h.n1, h.n2, fun a b => ?_, fun a b => ?_, fun a => ?_, fun a b hab => ?_⟩ <;> unfold upd2 <;> split
  · omega
  · exact h.lo a b
  · omega
  · exact h.hi a b
  · omega
  · exact h.dg a
  · omega
  · exact h.out a b hab
theorem good_put {n : Int} {c : Int → Int → Int} (h : Good n c) (u w g : Int) : Good n (putD n c u w g) := by
  unfold putD; split
  · exact good_upd h (by assumption)
  · exact h
structure LinkM where
  t : Int
  h : Int
  g : Int
  mid : Int
  deriving Inhabited, DecidableEq
def inn (c : Int → Int → Int) (v u a : Int) : Nat → List LinkM
  | 0 => []
  | k + 1 => if c v (k : Nat) ≠ 4611686018427387906 ∧ u ≠ (k : Nat) then inn c v u a k ++ [⟨u, (k : Nat), two a (c v (k : Nat)), v⟩] else inn c v u a k
def outL (n : Nat) (c : Int → Int → Int) (v : Int) : Nat → List LinkM
  | 0 => []
  | k + 1 => if c (k : Nat) v ≠ 4611686018427387906 then outL n c v k ++ inn c v (k : Nat) (c (k : Nat) v) n else outL n c v k
def detL (n : Int) (c : Int → Int → Int) (v : Int) : List LinkM := outL n.toNat c v n.toNat
theorem inn_len (c : Int → Int → Int) (v u a : Int) : ∀ k, (inn c v u a k).length ≤ k
  | 0 => by simp [inn]
  | k + 1 => by have := inn_len c v u a k; unfold inn; split <;> simp <;> omega
theorem outL_len (n : Nat) (c : Int → Int → Int) (v : Int) : ∀ k, (outL n c v k).length ≤ k * n
  | 0 => by simp [outL]
  | k + 1 => by
    have h1 := outL_len n c v k
    have h2 := inn_len c v (k : Nat) (c (k : Nat) v) n
    rw [Nat.add_mul, Nat.one_mul]
    unfold outL; split <;> simp <;> omega
theorem detL_len {n : Int} {c : Int → Int → Int} (h : Good n c) (v : Int) : (detL n c v).length ≤ 576 := by
  have h1 := outL_len n.toNat c v n.toNat
  have h2 : n.toNat * n.toNat ≤ 24 * 24 := Nat.mul_le_mul (by have := h.n2; omega) (by have := h.n2; omega)
  unfold detL; omega
/-- The document's way to the same links. -/
def rinn (c : Int → Int → Int) (v u : Int) : Nat → List LinkM
  | 0 => []
  | k + 1 => if u ≠ (k : Nat) ∧ two (c u v) (c v (k : Nat)) < 4611686018427387906 then rinn c v u k ++ [⟨u, (k : Nat), two (c u v) (c v (k : Nat)), v⟩] else rinn c v u k
theorem rinn_eq {n : Int} {c : Int → Int → Int} (h : Good n c) (v u : Int) : ∀ k, rinn c v u k = if c u v ≠ 4611686018427387906 then inn c v u (c u v) k else []
  | 0 => by simp [rinn, inn]
  | k + 1 => by
    have ih := rinn_eq h v u k
    unfold rinn inn
    rw [ih]
    have hl := two_lt (h.dst u v) (h.dst v (k : Nat))
    by_cases h1 : c u v ≠ 4611686018427387906
    · rw [if_pos h1, if_pos h1]
      by_cases h2 : c v (k : Nat) ≠ 4611686018427387906 ∧ u ≠ (k : Nat)
      · rw [if_pos h2, if_pos ⟨h2.2, hl.2 ⟨h1, h2.1⟩⟩]
      · rw [if_neg h2, if_neg (fun hh => h2 ⟨(hl.1 hh.2).2, hh.1⟩)]
    · rw [if_neg h1, if_neg h1, if_neg (fun hh => h1 (hl.1 hh.2).1)]
def routL (n : Nat) (c : Int → Int → Int) (v : Int) : Nat → List LinkM
  | 0 => []
  | k + 1 => routL n c v k ++ rinn c v (k : Nat) n
theorem rout_eq {n : Int} {c : Int → Int → Int} (h : Good n c) (m : Nat) (v : Int) : ∀ k, routL m c v k = outL m c v k
  | 0 => rfl
  | k + 1 => by
    unfold routL outL
    rw [rout_eq h m v k, rinn_eq h]
    split <;> simp
/-- What is done with the links, one behind the other. -/
def ap1 (s : (Int → Int → Int) × Int) (x : LinkM) : (Int → Int → Int) × Int := if x.g < s.1 x.t x.h then (upd2 s.1 x.t x.h x.g, s.2 + 1) else s
def appl (l : List LinkM) (s : (Int → Int → Int) × Int) : (Int → Int → Int) × Int := l.foldl ap1 s
theorem appl_append (l l' : List LinkM) (s : (Int → Int → Int) × Int) : appl (l ++ l') s = appl l' (appl l s) := by unfold appl; rw [List.foldl_append]
def contrC (n : Int) (c : Int → Int → Int) (v : Int) : Int → Int → Int := fun a b => if a = v ∨ b = v then 4611686018427387906 else (appl (detL n c v) (c, 0)).1 a b
def contrK (n : Int) (c : Int → Int → Int) (v : Int) : Int := (appl (detL n c v) (c, 0)).2
theorem appl_inn (c : Int → Int → Int) (v u a : Int) (s : (Int → Int → Int) × Int) (x y : Int) : ∀ k : Nat, (appl (inn c v u a k) s).1 x y = if x = u ∧ 0 ≤ y ∧ y < k ∧ u ≠ y ∧ c v y ≠ 4611686018427387906 then min (s.1 x y) (two a (c v y)) else s.1 x y
  | 0 => by rw [if_neg (by omega)]; rfl
  | k + 1 => by
    have ih := appl_inn c v u a s x y k
    unfold inn
    split
    · rename_i hk
      rw [appl_append]
      show (ap1 (appl (inn c v u a k) s) ⟨u, (k : Nat), two a (c v (k : Nat)), v⟩).1 x y = _
      unfold ap1
      by_cases e : x = u ∧ y = (k : Nat)
      · obtain ⟨rfl, rfl⟩ := e
        rw [if_neg (by omega)] at ih
        refine Eq.trans ?_ (if_pos ⟨rfl, by omega, by omega, hk.2, hk.1⟩).symm
        dsimp only
        rw [ih]
        split
        · unfold upd2; dsimp only; rw [if_pos ⟨rfl, rfl⟩, Int.min_def, if_neg (by omega)]
        · rw [ih, Int.min_def, if_pos (by omega)]
      · have h1 : (if two a (c v (k : Nat)) < (appl (inn c v u a k) s).1 u (k : Nat) then (upd2 (appl (inn c v u a k) s).1 u (k : Nat) (two a (c v (k : Nat))), (appl (inn c v u a k) s).2 + 1) else appl (inn c v u a k) s).1 x y = (appl (inn c v u a k) s).1 x y := by
          split
          · unfold upd2; dsimp only; rw [if_neg e]
          · rfl
        refine h1.trans (ih.trans ?_)
        by_cases h2 : x = u ∧ 0 ≤ y ∧ y < k ∧ u ≠ y ∧ c v y ≠ 4611686018427387906
        · rw [if_pos h2, if_pos ⟨h2.1, h2.2.1, by omega, h2.2.2.2⟩]
        · rw [if_neg h2, if_neg (fun hh => h2 ⟨hh.1, hh.2.1, by have := hh.1; omega, hh.2.2.2⟩)]
    · rename_i hk
      rw [ih]
      by_cases h2 : x = u ∧ 0 ≤ y ∧ y < k ∧ u ≠ y ∧ c v y ≠ 4611686018427387906
      · rw [if_pos h2, if_pos ⟨h2.1, h2.2.1, by omega, h2.2.2.2⟩]
      · rw [if_neg h2, if_neg]
        rintro ⟨a1, a2, a3, a4, a5⟩
        by_cases e : y = (k : Nat)
        · subst e; exact hk ⟨a5, a4⟩
        · exact h2 ⟨a1, a2, by omega, a4, a5⟩
theorem appl_out (n : Nat) (c : Int → Int → Int) (v : Int) (s : (Int → Int → Int) × Int) (x y : Int) : ∀ k : Nat, (appl (outL n c v k) s).1 x y = if 0 ≤ x ∧ x < k ∧ c x v ≠ 4611686018427387906 ∧ 0 ≤ y ∧ y < n ∧ x ≠ y ∧ c v y ≠ 4611686018427387906 then min (s.1 x y) (two (c x v) (c v y)) else s.1 x y
  | 0 => by rw [if_neg (by omega)]; rfl
  | k + 1 => by
    have ih := appl_out n c v s x y k
    unfold outL
    split
    · rename_i hk
      rw [appl_append, appl_inn, ih]
      by_cases e : x = (k : Nat)
      · subst e
        rw [if_neg (show ¬ (0 ≤ ((k : Nat) : Int) ∧ ((k : Nat) : Int) < (k : Nat) ∧ _) from fun hh => by omega)]
        by_cases h2 : 0 ≤ y ∧ y < n ∧ (k : Int) ≠ y ∧ c v y ≠ 4611686018427387906
        · rw [if_pos ⟨rfl, h2⟩, if_pos ⟨by omega, by omega, hk, h2⟩]
        · rw [if_neg (fun hh => h2 hh.2), if_neg (fun hh => h2 hh.2.2.2)]
      · rw [if_neg (fun hh => e hh.1)]
        by_cases h2 : 0 ≤ x ∧ x < k ∧ c x v ≠ 4611686018427387906 ∧ 0 ≤ y ∧ y < n ∧ x ≠ y ∧ c v y ≠ 4611686018427387906
        · rw [if_pos h2, if_pos ⟨h2.1, by omega, h2.2.2⟩]
        · rw [if_neg h2, if_neg (fun hh => h2 ⟨hh.1, by omega, hh.2.2⟩)]
    · rename_i hk
      rw [ih]
      by_cases h2 : 0 ≤ x ∧ x < k ∧ c x v ≠ 4611686018427387906 ∧ 0 ≤ y ∧ y < n ∧ x ≠ y ∧ c v y ≠ 4611686018427387906
      · rw [if_pos h2, if_pos ⟨h2.1, by omega, h2.2.2⟩]
      · rw [if_neg h2, if_neg]
        rintro ⟨a1, a2, a3, a4⟩
        by_cases e : x = (k : Nat)
        · subst e; exact hk a3
        · exact h2 ⟨a1, by omega, a3, a4⟩
theorem contr_eq {n : Int} {c : Int → Int → Int} (h : Good n c) (v a b : Int) : contrC n c v a b = if a = v ∨ b = v ∨ a = b then 4611686018427387906 else min (c a b) (two (c a v) (c v b)) := by
  unfold contrC detL
  by_cases h1 : a = v ∨ b = v
  · rw [if_pos h1, if_pos (by omega)]
  · rw [if_neg h1, appl_out]
    dsimp only
    by_cases h2 : a = b
    · subst h2
      rw [if_neg (by omega), if_pos (by omega), h.dg]
    · rw [if_neg (show ¬ (a = v ∨ b = v ∨ a = b) by omega)]
      split
      · rfl
      · rename_i hn
        have : two (c a v) (c v b) = 4611686018427387906 := by
          by_cases h3 : c a v = 4611686018427387906
          · rw [h3, two_none_left]
          · by_cases h4 : c v b = 4611686018427387906
            · rw [h4, two_none_right]
            · exfalso
              have h5 : 0 ≤ a ∧ a < n ∧ 0 ≤ v ∧ v < n := Decidable.byContradiction fun hh => h3 (h.out a v hh)
              have h6 : 0 ≤ v ∧ v < n ∧ 0 ≤ b ∧ b < n := Decidable.byContradiction fun hh => h4 (h.out v b hh)
              exact hn ⟨h5.1, by omega, h3, h6.2.2.1, by omega, h2, h4⟩
        rw [this, Int.min_def, if_pos (h.hi a b)]
theorem good_contr {n : Int} {c : Int → Int → Int} (h : Good n c) (v : Int) : Good n (contrC n c v) := by
  have hc := contr_eq h v
  refine ⟨h.n1, h.n2, fun a b => ?_, fun a b => ?_, fun a => ?_, fun a b hab => ?_⟩ <;> rw [hc] <;> split
  · omega
  · have h1 := h.lo a b
    have h2 := two_one (h.dst a v) (h.dst v b) (h.lo a v)
    omega
  · omega
  · have := h.hi a b; omega
  · rfl
  · omega
  · rfl
  · rw [h.out a b hab]
    have h2 := two_dst (h.dst a v) (h.dst v b)
    have : two (c a v) (c v b) = 4611686018427387906 := by
      by_cases h3 : 0 ≤ a ∧ a < n
      · rw [h.out v b (by omega), two_none_right]
      · rw [h.out a v (by omega), two_none_left]
    rw [this]; omega
/-! ### Walks -/
inductive Wk (c : Int → Int → Int) : Int → Int → Int → Prop
  | nil (u : Int) : Wk c u u 0
  | cons (u x w s : Int) : Wk c x w s → Wk c u w (two (c u x) s)
theorem Wk.dst {n : Int} {c : Int → Int → Int} (h : Good n c) {u w s : Int} (k : Wk c u w s) : Dst s := by
  induction k with
  | nil => exact ⟨by omega, by omega⟩
  | cons u x w s _ ih => exact two_dst (h.dst u x) ih
theorem Wk.trans {n : Int} {c : Int → Int → Int} (h : Good n c) {u x w s t : Int} (k : Wk c u x s) (m : Wk c x w t) : Wk c u w (two s t) := by
  have hm := m.dst h
  induction k with
  | nil => rw [zero_two hm]; exact m
  | cons u y x s k ih =>
    rw [two_assoc (h.dst u y) (k.dst h) hm]
    exact .cons _ _ _ _ (ih m)
def fwS (c : Int → Int → Int) : Int → Int → Int := fun a b => if a = b then 0 else c a b
def fwP (D : Int → Int → Int) (k : Int) : Int → Int → Int := fun a b => min (D a b) (two (D a k) (D k b))
def fw (c : Int → Int → Int) : Nat → Int → Int → Int
  | 0 => fwS c
  | k + 1 => fwP (fw c k) (k : Nat)
section
variable {n : Int} {c : Int → Int → Int}
theorem fw_dst (h : Good n c) : ∀ k a b, Dst (fw c k a b)
  | 0, a, b => by
    show Dst (if a = b then 0 else c a b)
    split
    · exact ⟨by omega, by omega⟩
    · exact h.dst a b
  | k + 1, a, b => by
    have h1 := fw_dst h k a b
    have h2 := two_dst (fw_dst h k a (k : Nat)) (fw_dst h k (k : Nat) b)
    show Dst (min _ _)
    unfold Dst at *; omega
theorem fw_diag (h : Good n c) : ∀ k a, fw c k a a = 0
  | 0, a => if_pos rfl
  | k + 1, a => by
    have h2 := two_dst (fw_dst h k a (k : Nat)) (fw_dst h k (k : Nat) a)
    show min (fw c k a a) _ = 0
    rw [fw_diag h k a]
    unfold Dst at h2; omega
theorem fw_le (h : Good n c) : ∀ k a b, fw c k a b ≤ c a b
  | 0, a, b => by
    show (if a = b then 0 else c a b) ≤ c a b
    split
    · have := h.lo a b; omega
    · omega
  | k + 1, a, b => by
    have := fw_le h k a b
    show min (fw c k a b) _ ≤ _
    omega
theorem fw_tri (h : Good n c) : ∀ (k : Nat) (j : Nat), j < k → ∀ a b, fw c k a b ≤ two (fw c k a (j : Nat)) (fw c k (j : Nat) b)
  | 0, j, hj, _, _ => absurd hj (by omega)
  | k + 1, j, hj, a, b => by
    have hD := fw_dst h k
    have hd := fw_diag h k
    have tw := fun x y => two_dst (hD x (k : Nat)) (hD (k : Nat) y)
    have key : fw c (k + 1) a b ≤ two (fw c k a (k : Nat)) (fw c k (k : Nat) b) := Int.min_le_right _ _
    have key0 : fw c (k + 1) a b ≤ fw c k a b := Int.min_le_left _ _
    rcases Nat.lt_or_ge j k with hjk | hjk
    · have ih := fw_tri h k j hjk
      have e1 : fw c (k + 1) a (j : Nat) = min (fw c k a (j : Nat)) (two (fw c k a (k : Nat)) (fw c k (k : Nat) (j : Nat))) := rfl
      have e2 : fw c (k + 1) (j : Nat) b = min (fw c k (j : Nat) b) (two (fw c k (j : Nat) (k : Nat)) (fw c k (k : Nat) b)) := rfl
      have g1 : ∀ x y, (x = fw c k a (j : Nat) ∨ x = two (fw c k a (k : Nat)) (fw c k (k : Nat) (j : Nat))) → (y = fw c k (j : Nat) b ∨ y = two (fw c k (j : Nat) (k : Nat)) (fw c k (k : Nat) b)) → fw c (k + 1) a b ≤ two x y := by
        rintro x y (rfl | rfl) (rfl | rfl)
        · exact Int.le_trans key0 (ih a b)
        · rw [← two_assoc (hD _ _) (hD _ _) (hD _ _)]
          exact Int.le_trans key (two_mono (hD _ _) (hD _ _) (two_dst (hD _ _) (hD _ _)) (hD _ _) (ih a (k : Nat)) (Int.le_refl _))
        · rw [two_assoc (hD _ _) (hD _ _) (hD _ _)]
          exact Int.le_trans key (two_mono (hD _ _) (hD _ _) (hD _ _) (two_dst (hD _ _) (hD _ _)) (Int.le_refl _) (ih (k : Nat) b))
        · rw [two_assoc (hD _ _) (hD _ _) (tw _ _)]
          refine Int.le_trans key (two_mono (hD _ _) (hD _ _) (hD _ _) (two_dst (hD _ _) (tw _ _)) (Int.le_refl _) ?_)
          refine Int.le_trans ?_ (le_two_right (hD _ _) (tw _ _))
          exact le_two_right (hD _ _) (hD _ _)
      refine g1 _ _ ?_ ?_
      · rw [e1, Int.min_def]; split
        · exact .inl rfl
        · exact .inr rfl
      · rw [e2, Int.min_def]; split
        · exact .inl rfl
        · exact .inr rfl
    · obtain rfl : j = k := by omega
      have e1 : fw c (j + 1) a (j : Nat) = fw c j a (j : Nat) := by
        show min (fw c j a (j : Nat)) (two (fw c j a (j : Nat)) (fw c j (j : Nat) (j : Nat))) = _
        rw [hd, two_zero (hD _ _)]; omega
      have e2 : fw c (j + 1) (j : Nat) b = fw c j (j : Nat) b := by
        show min (fw c j (j : Nat) b) (two (fw c j (j : Nat) (j : Nat)) (fw c j (j : Nat) b)) = _
        rw [hd, zero_two (hD _ _)]; omega
      rw [e1, e2]; exact key
theorem fw_walk (h : Good n c) : ∀ (k : Nat) a b, ∃ s, Wk c a b s ∧ s ≤ fw c k a b
  | 0, a, b => by
    show ∃ s, Wk c a b s ∧ s ≤ (if a = b then 0 else c a b)
    split
    · rename_i e; subst e; exact ⟨0, .nil _, Int.le_refl _⟩
    · have := Wk.cons a b b 0 (.nil b) (c := c)
      rw [two_zero (h.dst a b)] at this
      exact ⟨_, this, Int.le_refl _⟩
  | k + 1, a, b => by
    show ∃ s, Wk c a b s ∧ s ≤ min (fw c k a b) (two (fw c k a (k : Nat)) (fw c k (k : Nat) b))
    rw [Int.min_def]
    split
    · exact fw_walk h k a b
    · obtain ⟨s, h1, h2⟩ := fw_walk h k a (k : Nat)
      obtain ⟨t, h3, h4⟩ := fw_walk h k (k : Nat) b
      exact ⟨_, h1.trans h h3, two_mono (h1.dst h) (h3.dst h) (fw_dst h k _ _) (fw_dst h k _ _) h2 h4⟩
/-- How far it is. -/
def far (n : Int) (c : Int → Int → Int) : Int → Int → Int := fw c n.toNat
theorem fw_out (h : Good n c) : ∀ k a b, a ≠ b → ¬ (0 ≤ a ∧ a < n ∧ 0 ≤ b ∧ b < n) → k ≤ n.toNat → fw c k a b = 4611686018427387906
  | 0, a, b, hab, ho, _ => by
    show (if a = b then 0 else c a b) = 4611686018427387906
    rw [if_neg hab, h.out a b ho]
  | k + 1, a, b, hab, ho, hk => by
    show min (fw c k a b) (two (fw c k a (k : Nat)) (fw c k (k : Nat) b)) = 4611686018427387906
    rw [fw_out h k a b hab ho (by omega)]
    have : two (fw c k a (k : Nat)) (fw c k (k : Nat) b) = 4611686018427387906 := by
      by_cases h3 : 0 ≤ a ∧ a < n
      · rw [fw_out h k (k : Nat) b (by omega) (by omega) (by omega), two_none_right]
      · rw [fw_out h k a (k : Nat) (by omega) (by omega) (by omega), two_none_left]
    rw [this]; omega
theorem far_tri (h : Good n c) (a j b : Int) : far n c a b ≤ two (far n c a j) (far n c j b) := by
  by_cases hj : 0 ≤ j ∧ j < n
  · have := fw_tri h n.toNat j.toNat (by omega) a b
    rwa [show ((j.toNat : Nat) : Int) = j from by omega] at this
  · have hD := fw_dst h n.toNat
    by_cases e : a = j
    · subst e
      unfold far; rw [fw_diag h, zero_two (hD _ _)]; exact Int.le_refl _
    · have : far n c a j = 4611686018427387906 := fw_out h _ a j e (by omega) (Nat.le_refl _)
      rw [this, two_none_left]
      exact (hD a b).2
theorem far_least (h : Good n c) {a b s : Int} (k : Wk c a b s) : far n c a b ≤ s := by
  have hD := fw_dst h n.toNat
  induction k with
  | nil => unfold far; rw [fw_diag h]; exact Int.le_refl _
  | cons u x w s k ih =>
    exact Int.le_trans (far_tri h u x w) (two_mono (hD _ _) (hD _ _) (h.dst _ _) (k.dst h) (fw_le h _ _ _) ih)
/-- Contracting a vertex keeps how far it is among the others. -/
theorem contr_down (h : Good n c) (v : Int) {a b s : Int} (k : Wk (contrC n c v) a b s) : ∃ t, Wk c a b t ∧ t ≤ s := by
  have hg := good_contr h v
  induction k with
  | nil => exact ⟨0, .nil _, Int.le_refl _⟩
  | cons u x w s k ih =>
    obtain ⟨t, h1, h2⟩ := ih
    have ht := h1.dst h
    have hs := k.dst hg
    have hc := contr_eq h v u x
    by_cases h3 : u = v ∨ x = v ∨ u = x
    · rw [if_pos h3] at hc
      rw [hc, two_none_left]
      exact ⟨_, .cons u x w t h1, (two_dst (h.dst _ _) ht).2⟩
    · rw [if_neg h3, Int.min_def] at hc
      split at hc
      · rw [hc]; exact ⟨_, .cons u x w t h1, two_mono (h.dst _ _) ht (h.dst _ _) hs (Int.le_refl _) h2⟩
      · rw [hc, two_assoc (h.dst _ _) (h.dst _ _) hs]
        refine ⟨_, .cons u v w _ (.cons v x w t h1), ?_⟩
        exact two_mono (h.dst _ _) (two_dst (h.dst _ _) ht) (h.dst _ _) (two_dst (h.dst _ _) hs) (Int.le_refl _) (two_mono (h.dst _ _) ht (h.dst _ _) hs (Int.le_refl _) h2)
theorem contr_up (h : Good n c) (v : Int) {a b s : Int} (k : Wk c a b s) (hb : b ≠ v) :
    (a ≠ v → ∃ t, Wk (contrC n c v) a b t ∧ t ≤ s) ∧ (a = v → ∃ y t, y ≠ v ∧ Wk (contrC n c v) y b t ∧ two (c v y) t ≤ s) := by
  have hg := good_contr h v
  induction k with
  | nil => exact ⟨fun _ => ⟨0, .nil _, Int.le_refl _⟩, fun e => absurd e hb⟩
  | cons u x w s k ih =>
    obtain ⟨i1, i2⟩ := ih hb
    have hs := k.dst h
    by_cases hx : x = v
    · obtain ⟨y, t, hy, h1, h2⟩ := i2 hx
      have ht := h1.dst hg
      subst hx
      refine ⟨fun hu => ?_, fun hu => ?_⟩
      · by_cases huy : u = y
        · subst huy
          exact ⟨t, h1, Int.le_trans (le_two_right (h.dst _ _) ht) (Int.le_trans h2 (le_two_right (h.dst _ _) hs))⟩
        · refine ⟨_, .cons u y w t h1, ?_⟩
          have hc := contr_eq h x u y
          rw [if_neg (by omega)] at hc
          have hc2 : contrC n c x u y ≤ two (c u x) (c x y) := by rw [hc]; exact Int.min_le_right _ _
          refine Int.le_trans (two_mono (hg.dst _ _) ht (two_dst (h.dst _ _) (h.dst _ _)) ht hc2 (Int.le_refl _)) ?_
          rw [two_assoc (h.dst _ _) (h.dst _ _) ht]
          exact two_mono (h.dst _ _) (two_dst (h.dst _ _) ht) (h.dst _ _) hs (Int.le_refl _) h2
      · subst hu
        exact ⟨y, t, hy, h1, Int.le_trans h2 (le_two_right (h.dst _ _) hs)⟩
    · obtain ⟨t, h1, h2⟩ := i1 hx
      have ht := h1.dst hg
      refine ⟨fun hu => ?_, fun hu => ?_⟩
      · by_cases hux : u = x
        · subst hux
          exact ⟨t, h1, Int.le_trans h2 (le_two_right (h.dst _ _) hs)⟩
        · refine ⟨_, .cons u x w t h1, ?_⟩
          have hc := contr_eq h v u x
          rw [if_neg (by omega)] at hc
          have hc2 : contrC n c v u x ≤ c u x := by rw [hc]; exact Int.min_le_left _ _
          exact two_mono (hg.dst _ _) ht (h.dst _ _) hs hc2 h2
      · subst hu
        exact ⟨x, t, hx, h1, two_mono (h.dst _ _) ht (h.dst _ _) hs (Int.le_refl _) h2⟩
theorem contr_far (h : Good n c) (v a b : Int) (ha : a ≠ v) (hb : b ≠ v) : far n (contrC n c v) a b = far n c a b := by
  have hg := good_contr h v
  apply Int.le_antisymm
  · obtain ⟨s, h1, h2⟩ := fw_walk h n.toNat a b
    obtain ⟨t, h3, h4⟩ := (contr_up h v h1 hb).1 ha
    exact Int.le_trans (far_least hg h3) (Int.le_trans h4 h2)
  · obtain ⟨s, h1, h2⟩ := fw_walk hg n.toNat a b
    obtain ⟨t, h3, h4⟩ := contr_down h v h1
    exact Int.le_trans (far_least h h3) (Int.le_trans h4 h2)
/-- A vertex to which, and from which, no step leads. -/
def gone (c : Int → Int → Int) (v : Int) : Prop := ∀ x, c x v = 4611686018427387906 ∧ c v x = 4611686018427387906
theorem gone_contr (h : Good n c) (v : Int) : gone (contrC n c v) v := fun x => by
  constructor <;> rw [contr_eq h] <;> exact if_pos (by omega)
theorem gone_keep (h : Good n c) (v u : Int) (hu : gone c u) : gone (contrC n c v) u := fun x => by
  constructor <;> rw [contr_eq h] <;> split
  · rfl
  · rw [(hu x).1, (hu v).1, two_none_right]; omega
  · rfl
  · rw [(hu x).2, (hu v).2, two_none_left]; omega
theorem last_law (h : Good n c) (a b : Int) (hab : a ≠ b) (hg : ∀ v, 0 ≤ v → v < n → v ≠ a → v ≠ b → gone c v) : far n c a b = c a b := by
  have hgo : ∀ v, v ≠ a → v ≠ b → ∀ x, c v x = 4611686018427387906 := fun v h1 h2 x => by
    by_cases hv : 0 ≤ v ∧ v < n
    · exact (hg v hv.1 hv.2 h1 h2 x).2
    · exact h.out v x (by omega)
  have hgi : ∀ v, v ≠ a → v ≠ b → ∀ x, c x v = 4611686018427387906 := fun v h1 h2 x => by
    by_cases hv : 0 ≤ v ∧ v < n
    · exact (hg v hv.1 hv.2 h1 h2 x).1
    · exact h.out x v (by omega)
  apply Int.le_antisymm (fw_le h _ a b)
  obtain ⟨s, h1, h2⟩ := fw_walk h n.toNat a b
  refine Int.le_trans ?_ h2
  have key : ∀ x w s, Wk c x w s → w = b → (x = a → c a b ≤ s) := by
    intro x w s k
    induction k with
    | nil => intro h1 h2; omega
    | cons u x w s k ih =>
      rintro rfl rfl
      have hs := k.dst h
      by_cases hx : x = w
      · subst hx; exact le_two_left (h.dst _ _) hs
      · have hn : c u x = 4611686018427387906 := by
          by_cases hxu : x = u
          · subst hxu; exact h.dg x
          · exact hgi x hxu hx u
        rw [hn, two_none_left]; exact h.hi _ _
  exact key a b s h1 rfl rfl
end
/-! ### For the walks -/
theorem mem_inn {n : Int} {c : Int → Int → Int} (h : Good n c) {v u : Int} {a : Int} (hu : 0 ≤ u ∧ u < n) (ha : Dst a) (h1 : 1 ≤ a) (x : LinkM) : ∀ k : Nat, (k : Int) ≤ n → x ∈ inn c v u a k → okP n x.t x.h x.g
  | 0, _, hx => by simp [inn] at hx
  | k + 1, hk, hx => by
    unfold inn at hx
    split at hx
    · rename_i hc
      rw [List.mem_append, List.mem_singleton] at hx
      rcases hx with hx | rfl
      · exact mem_inn h hu ha h1 x k (by omega) hx
      · have h2 := two_one ha (h.dst v (k : Nat)) h1
        have h3 := (two_dst ha (h.dst v (k : Nat))).2
        exact ⟨hu.1, hu.2, by dsimp only; omega, by dsimp only; omega, hc.2, h2, h3⟩
    · exact mem_inn h hu ha h1 x k (by omega) hx
theorem mem_out {n : Int} {c : Int → Int → Int} (h : Good n c) {v : Int} (x : LinkM) : ∀ k : Nat, (k : Int) ≤ n → x ∈ outL n.toNat c v k → okP n x.t x.h x.g
  | 0, _, hx => by simp [outL] at hx
  | k + 1, hk, hx => by
    unfold outL at hx
    split at hx
    · rw [List.mem_append] at hx
      rcases hx with hx | hx
      · exact mem_out h x k (by omega) hx
      · exact mem_inn h ⟨by omega, by omega⟩ (h.dst _ _) (h.lo _ _) x n.toNat (by have := h.n1; omega) hx
    · exact mem_out h x k (by omega) hx
theorem mem_det {n : Int} {c : Int → Int → Int} (h : Good n c) {v : Int} {x : LinkM} (hx : x ∈ detL n c v) : okP n x.t x.h x.g := mem_out h x n.toNat (by have := h.n1; omega) hx
theorem good_ap1 {n : Int} {s : (Int → Int → Int) × Int} (h : Good n s.1) {x : LinkM} (hx : okP n x.t x.h x.g) : Good n (ap1 s x).1 := by
  unfold ap1; split
  · exact good_upd h hx
  · exact h
theorem good_appl {n : Int} (l : List LinkM) : ∀ s : (Int → Int → Int) × Int, Good n s.1 → (∀ x ∈ l, okP n x.t x.h x.g) → Good n (appl l s).1 := by
  induction l with
  | nil => intro s h _; exact h
  | cons x l ih => intro s h hx; exact ih _ (good_ap1 h (hx x (by simp))) fun y hy => hx y (by simp [hy])
theorem appl_cnt (l : List LinkM) : ∀ s : (Int → Int → Int) × Int, s.2 ≤ (appl l s).2 ∧ (appl l s).2 ≤ s.2 + l.length := by
  induction l with
  | nil => intro s; simp [appl]
  | cons x l ih =>
    intro s
    have := ih (ap1 s x)
    have h2 : s.2 ≤ (ap1 s x).2 ∧ (ap1 s x).2 ≤ s.2 + 1 := by unfold ap1; split <;> simp <;> omega
    show s.2 ≤ (appl l (ap1 s x)).2 ∧ (appl l (ap1 s x)).2 ≤ s.2 + (x :: l).length
    rw [List.length_cons]; omega
theorem takeL (xs : List LinkM) (i : Nat) (h : i < xs.length) : xs.take (i + 1) = xs.take i ++ [xs.getD i default] := by
  rw [List.take_succ_eq_append_getElem h]; simp [List.getD_eq_getElem?_getD, h]
theorem getL_mem (xs : List LinkM) (i : Nat) (h : i < xs.length) : xs.getD i default ∈ xs := by
  rw [List.getD_eq_getElem?_getD, List.getElem?_eq_getElem h]; exact List.getElem_mem _
theorem appl_take (xs : List LinkM) (i : Nat) (h : i < xs.length) (s : (Int → Int → Int) × Int) : appl (xs.take (i + 1)) s = ap1 (appl (xs.take i) s) (xs.getD i default) := by
  rw [takeL xs i h, appl_append]; rfl
theorem row_neg (c : Int → Int → Int) (v : Int) : rowZ (fun a b => 4611686018427387906 - c a b) v 0 = fun a b => 4611686018427387906 - (if a = v then 4611686018427387906 else c a b) := by
  funext a b; unfold rowZ; dsimp only; split <;> omega
/-- A phase of the document's way to all distances, as far as it has come. -/
def fwE (D : Int → Int → Int) (n k u w : Int) : Int → Int → Int := fun a b => if a < n ∧ b < n ∧ (a < u ∨ (a = u ∧ b < w)) then fwP D k a b else D a b
section
variable {D : Int → Int → Int} {n k u w : Int}
theorem fwP_col (hD : ∀ a b, Dst (D a b)) (hk : D k k = 0) (a : Int) : fwP D k a k = D a k := by
  unfold fwP; rw [hk, two_zero (hD _ _)]; omega
theorem fwP_row (hD : ∀ a b, Dst (D a b)) (hk : D k k = 0) (b : Int) : fwP D k k b = D k b := by
  unfold fwP; rw [hk, zero_two (hD _ _)]; omega
theorem fwE_col (hD : ∀ a b, Dst (D a b)) (hk : D k k = 0) (a : Int) : fwE D n k u w a k = D a k := by
  unfold fwE; split
  · exact fwP_col hD hk a
  · rfl
theorem fwE_row (hD : ∀ a b, Dst (D a b)) (hk : D k k = 0) (b : Int) : fwE D n k u w k b = D k b := by
  unfold fwE; split
  · exact fwP_row hD hk b
  · rfl
theorem fwE_dst (hD : ∀ a b, Dst (D a b)) (a b : Int) : Dst (fwE D n k u w a b) := by
  unfold fwE fwP; split
  · have h1 := hD a b
    have h2 := two_dst (hD a k) (hD k b)
    unfold Dst at *; omega
  · exact hD a b
theorem fwE_lt (hu : u < n) (hw : w < n) (h : two (D u k) (D k w) < D u w) : upd2 (fwE D n k u w) u w (two (D u k) (D k w)) = fwE D n k u (w + 1) := by
  funext a b
  unfold upd2 fwE
  by_cases e : a = u ∧ b = w
  · obtain ⟨rfl, rfl⟩ := e
    rw [if_pos ⟨rfl, rfl⟩, if_pos (by omega)]
    unfold fwP; omega
  · rw [if_neg e]
    by_cases h2 : a < n ∧ b < n ∧ (a < u ∨ (a = u ∧ b < w))
    · rw [if_pos h2, if_pos (by omega)]
    · rw [if_neg h2, if_neg (by omega)]
theorem fwE_ge (h : ¬ two (D u k) (D k w) < D u w) : fwE D n k u w = fwE D n k u (w + 1) := by
  funext a b
  unfold fwE
  by_cases e : a = u ∧ b = w
  · obtain ⟨rfl, rfl⟩ := e
    rw [if_neg (by omega)]
    split
    · unfold fwP; omega
    · rfl
  · by_cases h2 : a < n ∧ b < n ∧ (a < u ∨ (a = u ∧ b < w))
    · rw [if_pos h2, if_pos (by omega)]
    · rw [if_neg h2, if_neg (by omega)]
end
theorem fwE_at {D : Int → Int → Int} {n k u w : Int} : fwE D n k u w u w = D u w := if_neg (by omega)
end Go.Proofs.Ytliofdfhimmjmaa
