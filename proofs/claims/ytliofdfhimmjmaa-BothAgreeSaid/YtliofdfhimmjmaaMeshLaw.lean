/- Meshes, plainly: distances that stop at their end, steps, what contracting a vertex makes of them, and that it keeps all distances. No program in sight. -/
import Derived.Test.YtliofdfhimmjmaaRrBase
namespace Go.Proofs.Ytliofdfhimmjmaa
open Go.Rr
set_option linter.unusedVariables false
def two (a b : Int) : Int:=if a = 4611686018427387906 ∨ b = 4611686018427387906 then 4611686018427387906 else if 4611686018427387904 < a + b then 4611686018427387905 else a + b
abbrev Dst (a : Int) : Prop:=0 ≤ a ∧ a ≤ 4611686018427387906
theorem two_dst {a b : Int} (ha : Dst a) (hb : Dst b) : Dst (two a b):=by unfold two Dst at *; split <;> (try split) <;> omega
theorem two_mono {a b a' b' : Int} (ha : Dst a) (hb : Dst b) (ha' : Dst a') (hb' : Dst b') (h1 : a ≤ a') (h2 : b ≤ b') : two a b ≤ two a' b':=by
  unfold two Dst at *; (repeat' split) <;> omega
theorem two_assoc {a b c : Int} (ha : Dst a) (hb : Dst b) (hc : Dst c) : two (two a b) c = two a (two b c):=by
  unfold two Dst at *; (repeat' split) <;> omega
theorem two_zero {a : Int} (ha : Dst a) : two a 0 = a:=by unfold two Dst at *; (repeat' split) <;> omega
theorem zero_two {a : Int} (ha : Dst a) : two 0 a = a:=by unfold two Dst at *; (repeat' split) <;> omega
theorem le_two_left {a b : Int} (ha : Dst a) (hb : Dst b) : a ≤ two a b:=by unfold two Dst at *; (repeat' split) <;> omega
theorem le_two_right {a b : Int} (ha : Dst a) (hb : Dst b) : b ≤ two a b:=by unfold two Dst at *; (repeat' split) <;> omega
theorem two_none_left {b : Int} : two 4611686018427387906 b = 4611686018427387906:=by unfold two; simp
theorem two_none_right {a : Int} : two a 4611686018427387906 = 4611686018427387906:=by unfold two; simp
/-- Steps among the vertices below n; elsewhere none. -/
structure Good (n : Int) (c : Int → Int → Int) : Prop where
  n1 : 1 ≤ n
  n2 : n ≤ 24
  lo : ∀ u w,1 ≤ c u w
  hi : ∀ u w,c u w ≤ 4611686018427387906
  dg : ∀ u,c u u = 4611686018427387906
  out : ∀ u w,¬ (0 ≤ u ∧ u < n ∧ 0 ≤ w ∧ w < n) → c u w = 4611686018427387906
theorem Good.dst {n : Int} {c : Int → Int → Int} (h : Good n c) (u w : Int) : Dst (c u w):=⟨by have:=h.lo u w; omega,h.hi u w⟩
def okP (n u w g : Int) : Prop:=0 ≤ u ∧ u < n ∧ 0 ≤ w ∧ w < n ∧ u ≠ w ∧ 1 ≤ g ∧ g ≤ 4611686018427387906
instance {n u w g : Int} : Decidable (okP n u w g):=by unfold okP; infer_instance
structure LinkM where
  t : Int
  h : Int
  g : Int
  mid : Int
  deriving Inhabited,DecidableEq
/-! ### Walks -/
inductive Wk (c : Int → Int → Int) : Int → Int → Int → Prop
  | nil (u : Int) : Wk c u u 0
  | cons (u x w s : Int) : Wk c x w s → Wk c u w (two (c u x) s)
theorem Wk.dst {n : Int} {c : Int → Int → Int} (h : Good n c) {u w s : Int} (k : Wk c u w s) : Dst s:=by
  induction k with
  | nil=>exact ⟨by omega,by omega⟩
  | cons u x w s _ ih=>exact two_dst (h.dst u x) ih
theorem Wk.trans {n : Int} {c : Int → Int → Int} (h : Good n c) {u x w s t : Int} (k : Wk c u x s) (m : Wk c x w t) : Wk c u w (two s t):=by
  have hm:=m.dst h
  induction k with
  | nil=>rw [zero_two hm]; exact m
  | cons u y x s k ih =>
    rw [two_assoc (h.dst u y) (k.dst h) hm]
    exact .cons _ _ _ _ (ih m)
def fwS (c : Int → Int → Int) : Int → Int → Int:=fun a b=>if a = b then 0 else c a b
def fwP (D : Int → Int → Int) (k : Int) : Int → Int → Int:=fun a b=>min (D a b) (two (D a k) (D k b))
def fw (c : Int → Int → Int) : Nat → Int → Int → Int
  | 0=>fwS c
  | k + 1=>fwP (fw c k) (k : Nat)
section
variable {n : Int} {c : Int → Int → Int}
theorem fw_dst (h : Good n c) : ∀ k a b,Dst (fw c k a b)
  | 0,a,b=>by
    show Dst (if a = b then 0 else c a b)
    split
    · exact ⟨by omega,by omega⟩
    · exact h.dst a b
  | k + 1,a,b=>by
    have h1:=fw_dst h k a b
    have h2:=two_dst (fw_dst h k a (k : Nat)) (fw_dst h k (k : Nat) b)
    show Dst (min _ _)
    unfold Dst at *; omega
theorem fw_diag (h : Good n c) : ∀ k a,fw c k a a = 0
  | 0,a=>if_pos rfl
  | k + 1,a=>by
    have h2:=two_dst (fw_dst h k a (k : Nat)) (fw_dst h k (k : Nat) a)
    show min (fw c k a a) _ = 0
    rw [fw_diag h k a]
    unfold Dst at h2; omega
theorem fw_le (h : Good n c) : ∀ k a b,fw c k a b ≤ c a b
  | 0,a,b=>by
    show (if a = b then 0 else c a b) ≤ c a b
    split
    · have:=h.lo a b; omega
    · omega
  | k + 1,a,b=>by
    have:=fw_le h k a b
    show min (fw c k a b) _ ≤ _
    omega
theorem fw_tri (h : Good n c) : ∀ (k : Nat) (j : Nat),j < k → ∀ a b,fw c k a b ≤ two (fw c k a (j : Nat)) (fw c k (j : Nat) b)
  | 0,j,hj,_,_=>absurd hj (by omega)
  | k + 1, j,hj,a,b=>by
    have hD:=fw_dst h k
    have hd:=fw_diag h k
    have tw:=fun x y=>two_dst (hD x (k : Nat)) (hD (k : Nat) y)
    have key : fw c (k + 1) a b ≤ two (fw c k a (k : Nat)) (fw c k (k : Nat) b):=Int.min_le_right _ _
    have key0 : fw c (k + 1) a b ≤ fw c k a b:=Int.min_le_left _ _
    rcases Nat.lt_or_ge j k with hjk|hjk
    · have ih:=fw_tri h k j hjk
      have e1 : fw c (k + 1) a (j : Nat) = min (fw c k a (j : Nat)) (two (fw c k a (k : Nat)) (fw c k (k : Nat) (j : Nat))):=rfl
      have e2 : fw c (k + 1) (j : Nat) b = min (fw c k (j : Nat) b) (two (fw c k (j : Nat) (k : Nat)) (fw c k (k : Nat) b)):=rfl
      have g1 : ∀ x y,(x = fw c k a (j : Nat) ∨ x = two (fw c k a (k : Nat)) (fw c k (k : Nat) (j : Nat))) → (y = fw c k (j : Nat) b ∨ y = two (fw c k (j : Nat) (k : Nat)) (fw c k (k : Nat) b)) → fw c (k + 1) a b ≤ two x y:=by
        rintro x y (rfl|rfl) (rfl|rfl)
        · exact Int.le_trans key0 (ih a b)
        · rw [← two_assoc (hD _ _) (hD _ _) (hD _ _)]
          exact Int.le_trans key (two_mono (hD _ _) (hD _ _) (two_dst (hD _ _) (hD _ _)) (hD _ _) (ih a (k : Nat)) (Int.le_refl _))
        · rw [two_assoc (hD _ _) (hD _ _) (hD _ _)]
          exact Int.le_trans key (two_mono (hD _ _) (hD _ _) (hD _ _) (two_dst (hD _ _) (hD _ _)) (Int.le_refl _) (ih (k : Nat) b))
        · rw [two_assoc (hD _ _) (hD _ _) (tw _ _)]
          refine Int.le_trans key (two_mono (hD _ _) (hD _ _) (hD _ _) (two_dst (hD _ _) (tw _ _)) (Int.le_refl _) ?_)
          refine Int.le_trans ?_ (le_two_right (hD _ _) (tw _ _))
          exact le_two_right (hD _ _) (hD _ _)
      refine g1 _ _ ?_ ?_
      · rw [e1,Int.min_def]; split
        · exact .inl rfl
        · exact .inr rfl
      · rw [e2,Int.min_def]; split
        · exact .inl rfl
        · exact .inr rfl
    · obtain rfl : j = k:=by omega
      have e1 : fw c (j + 1) a (j : Nat) = fw c j a (j : Nat):=by
        show min (fw c j a (j : Nat)) (two (fw c j a (j : Nat)) (fw c j (j : Nat) (j : Nat))) = _
        rw [hd,two_zero (hD _ _)]; omega
      have e2 : fw c (j + 1) (j : Nat) b = fw c j (j : Nat) b:=by
        show min (fw c j (j : Nat) b) (two (fw c j (j : Nat) (j : Nat)) (fw c j (j : Nat) b)) = _
        rw [hd,zero_two (hD _ _)]; omega
      rw [e1,e2]; exact key
theorem fw_walk (h : Good n c) : ∀ (k : Nat) a b,∃ s,Wk c a b s ∧ s ≤ fw c k a b
  | 0, a,b=>by
    show ∃ s,Wk c a b s ∧ s ≤ (if a = b then 0 else c a b)
    split
    · rename_i e; subst e; exact ⟨0,.nil _,Int.le_refl _⟩
    · have:=Wk.cons a b b 0 (.nil b) (c:=c)
      rw [two_zero (h.dst a b)] at this
      exact ⟨_,this,Int.le_refl _⟩
  | k + 1,a,b=>by
    show ∃ s,Wk c a b s ∧ s ≤ min (fw c k a b) (two (fw c k a (k : Nat)) (fw c k (k : Nat) b))
    rw [Int.min_def]
    split
    · exact fw_walk h k a b
    · obtain ⟨s,h1,h2⟩:=fw_walk h k a (k : Nat)
      obtain ⟨t,h3,h4⟩:=fw_walk h k (k : Nat) b
      exact ⟨_,h1.trans h h3,two_mono (h1.dst h) (h3.dst h) (fw_dst h k _ _) (fw_dst h k _ _) h2 h4⟩
/-- How far it is. -/
def far (n : Int) (c : Int → Int → Int) : Int → Int → Int:=fw c n.toNat
theorem fw_out (h : Good n c) : ∀ k a b,a ≠ b → ¬ (0 ≤ a ∧ a < n ∧ 0 ≤ b ∧ b < n) → k ≤ n.toNat → fw c k a b = 4611686018427387906
  | 0,a,b,hab,ho,_=>by
    show (if a = b then 0 else c a b) = 4611686018427387906
    rw [if_neg hab,h.out a b ho]
  | k + 1,a,b,hab,ho,hk=>by
    show min (fw c k a b) (two (fw c k a (k : Nat)) (fw c k (k : Nat) b)) = 4611686018427387906
    rw [fw_out h k a b hab ho (by omega)]
    have : two (fw c k a (k : Nat)) (fw c k (k : Nat) b) = 4611686018427387906:=by
      by_cases h3 : 0 ≤ a ∧ a < n
      · rw [fw_out h k (k : Nat) b (by omega) (by omega) (by omega),two_none_right]
      · rw [fw_out h k a (k : Nat) (by omega) (by omega) (by omega),two_none_left]
    rw [this]; omega
theorem far_tri (h : Good n c) (a j b : Int) : far n c a b ≤ two (far n c a j) (far n c j b):=by
  by_cases hj : 0 ≤ j ∧ j < n
  · have:=fw_tri h n.toNat j.toNat (by omega) a b
    rwa [show ((j.toNat : Nat) : Int) = j from by omega] at this
  · have hD:=fw_dst h n.toNat
    by_cases e : a = j
    · subst e
      unfold far; rw [fw_diag h,zero_two (hD _ _)]; exact Int.le_refl _
    · have : far n c a j = 4611686018427387906:=fw_out h _ a j e (by omega) (Nat.le_refl _)
      rw [this,two_none_left]
      exact (hD a b).2
theorem far_least (h : Good n c) {a b s : Int} (k : Wk c a b s) : far n c a b ≤ s:=by
  have hD:=fw_dst h n.toNat
  induction k with
  | nil=>unfold far; rw [fw_diag h]; exact Int.le_refl _
  | cons u x w s k ih =>
    exact Int.le_trans (far_tri h u x w) (two_mono (hD _ _) (hD _ _) (h.dst _ _) (k.dst h) (fw_le h _ _ _) ih)
/-- A vertex to which, and from which, no step leads. -/
def gone (c : Int → Int → Int) (v : Int) : Prop:=∀ x,c x v = 4611686018427387906 ∧ c v x = 4611686018427387906
end
/-! ### For the walks -/
/-- A phase of the document's way to all distances, as far as it has come. -/
def fwE (D : Int → Int → Int) (n k u w : Int) : Int → Int → Int:=fun a b=>if a < n ∧ b < n ∧ (a < u ∨ (a = u ∧ b < w)) then fwP D k a b else D a b
section
variable {D : Int → Int → Int} {n k u w : Int}
theorem fwP_col (hD : ∀ a b,Dst (D a b)) (hk : D k k = 0) (a : Int) : fwP D k a k = D a k:=by
  unfold fwP; rw [hk,two_zero (hD _ _)]; omega
theorem fwP_row (hD : ∀ a b,Dst (D a b)) (hk : D k k = 0) (b : Int) : fwP D k k b = D k b:=by
  unfold fwP; rw [hk,zero_two (hD _ _)]; omega
theorem fwE_col (hD : ∀ a b,Dst (D a b)) (hk : D k k = 0) (a : Int) : fwE D n k u w a k = D a k:=by
  unfold fwE; split
  · exact fwP_col hD hk a
  · rfl
theorem fwE_row (hD : ∀ a b,Dst (D a b)) (hk : D k k = 0) (b : Int) : fwE D n k u w k b = D k b:=by
  unfold fwE; split
  · exact fwP_row hD hk b
  · rfl
theorem fwE_dst (hD : ∀ a b,Dst (D a b)) (a b : Int) : Dst (fwE D n k u w a b):=by
  unfold fwE fwP; split
  · have h1:=hD a b
    have h2:=two_dst (hD a k) (hD k b)
    unfold Dst at *; omega
  · exact hD a b
theorem fwE_lt (hu : u < n) (hw : w < n) (h : two (D u k) (D k w) < D u w) : upd2 (fwE D n k u w) u w (two (D u k) (D k w)) = fwE D n k u (w + 1):=by
  funext a b
  unfold upd2 fwE
  by_cases e : a = u ∧ b = w
  · obtain ⟨rfl,rfl⟩:=e
    rw [if_pos ⟨rfl,rfl⟩,if_pos (by omega)]
    unfold fwP; omega
  · rw [if_neg e]
    by_cases h2 : a < n ∧ b < n ∧ (a < u ∨ (a = u ∧ b < w))
    · rw [if_pos h2,if_pos (by omega)]
    · rw [if_neg h2,if_neg (by omega)]
theorem fwE_ge (h : ¬ two (D u k) (D k w) < D u w) : fwE D n k u w = fwE D n k u (w + 1):=by
  funext a b
  unfold fwE
  by_cases e : a = u ∧ b = w
  · obtain ⟨rfl,rfl⟩:=e
    rw [if_neg (by omega)]
    split
    · unfold fwP; omega
    · rfl
  · by_cases h2 : a < n ∧ b < n ∧ (a < u ∨ (a = u ∧ b < w))
    · rw [if_pos h2,if_pos (by omega)]
    · rw [if_neg h2,if_neg (by omega)]
end
theorem fwE_at {D : Int → Int → Int} {n k u w : Int} : fwE D n k u w u w = D u w:=if_neg (by omega)
end Go.Proofs.Ytliofdfhimmjmaa
