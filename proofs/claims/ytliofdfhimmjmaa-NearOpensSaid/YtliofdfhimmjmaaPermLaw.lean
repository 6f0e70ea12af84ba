/- Orders of vertices, plainly: what is an order, its inverse, the order of a number, the number of an order. No program in sight. -/
import Derived.Test.YtliofdfhimmjmaaRrBase
namespace Go.Proofs.Ytliofdfhimmjmaa
set_option linter.unusedVariables false
theorem take_get (xs : List Int) (i : Nat) (h : i < xs.length) : xs.take (i + 1) = xs.take i ++ [xs.getD i default] := by
  rw [List.take_succ_eq_append_getElem h]; simp [List.getD_eq_getElem?_getD, h]
theorem getD_lt (l : List Int) (i : Nat) (h : i < l.length) : l.getD i default = l[i] := by simp [List.getD_eq_getElem?_getD, h]
theorem getD_mem (l : List Int) (i : Nat) (h : i < l.length) : l.getD i default ∈ l := by rw [getD_lt l i h]; exact List.getElem_mem _
theorem getD_set (l : List Int) (i j : Nat) (x : Int) (h : i < l.length) : (l.set i x).getD j default = if j = i then x else l.getD j default := by
  simp only [List.getD_eq_getElem?_getD, List.getElem?_set]
  by_cases e : i = j
  · subst e; simp [h]
  · simp [e, Ne.symm e]
theorem ext_getD (l l' : List Int) (h : l.length = l'.length) (hh : ∀ i, i < l.length → l.getD i default = l'.getD i default) : l = l' := by
  apply List.ext_getElem h
  intro i h1 h2
  have := hh i h1
  rwa [getD_lt l i h1, getD_lt l' i h2] at this
theorem nodup_inj {l : List Int} (h : l.Nodup) {i j : Nat} (hi : i < l.length) (hj : j < l.length) (e : l.getD i default = l.getD j default) : i = j := by
  rw [getD_lt l i hi, getD_lt l j hj] at e
  have := (List.getElem?_inj (j := j) hi h).1 (by rw [List.getElem?_eq_getElem hi, List.getElem?_eq_getElem hj, e])
  exact this
theorem mem_getD {l : List Int} {x : Int} (h : x ∈ l) : ∃ i, i < l.length ∧ l.getD i default = x := by
  obtain ⟨i, hi, e⟩ := List.getElem_of_mem h
  exact ⟨i, hi, by rw [getD_lt l i hi, e]⟩
/-- 0, 1, .. -/
def rng (n : Nat) : List Int := (List.range n).map Int.ofNat
theorem rng_len (n : Nat) : (rng n).length = n := by simp [rng]
theorem rng_succ (n : Nat) : rng (n + 1) = rng n ++ [(n : Int)] := by unfold rng; rw [List.range_succ, List.map_append]; rfl
theorem rng_get (n i : Nat) (h : i < n) : (rng n).getD i default = i := by
  rw [getD_lt _ _ (by rw [rng_len]; exact h)]; simp [rng]
theorem mem_rng {n : Nat} {x : Int} : x ∈ rng n ↔ 0 ≤ x ∧ x < n := by
  unfold rng; rw [List.mem_map]
  constructor
  · rintro ⟨a, ha, rfl⟩
    rw [List.mem_range] at ha
    exact ⟨Int.natCast_nonneg a, Int.ofNat_lt.2 ha⟩
  · rintro ⟨h0, h1⟩
    exact ⟨x.toNat, List.mem_range.2 (by omega), Int.toNat_of_nonneg h0⟩
theorem rng_nodup (n : Nat) : (rng n).Nodup := by
  unfold rng
  rw [List.nodup_iff_pairwise_ne, List.pairwise_map]
  exact (List.nodup_iff_pairwise_ne.1 List.nodup_range).imp fun h e => h (Int.ofNat.inj e)
/-- Is it an order? -/
def RightP (l : List Int) : Prop := l.length ≤ 24 ∧ (∀ x ∈ l, 0 ≤ x ∧ x < l.length) ∧ l.Nodup
instance {l : List Int} : Decidable (RightP l) := by unfold RightP; infer_instance
theorem RightP.sur {l : List Int} (h : RightP l) {r : Int} (h0 : 0 ≤ r) (h1 : r < l.length) : r ∈ l := by
  refine Decidable.byContradiction fun hr => ?_
  have := List.Nodup.length_le_of_subset (l₁ := r :: l) (l₂ := rng l.length) (List.nodup_cons.2 ⟨hr, h.2.2⟩) (by
    intro x hx
    rcases List.mem_cons.1 hx with rfl | hx
    · exact mem_rng.2 ⟨h0, h1⟩
    · exact mem_rng.2 (h.2.1 x hx))
  rw [rng_len, List.length_cons] at this
  omega
theorem RightP.cnt {l : List Int} (h : RightP l) {r : Int} (h0 : 0 ≤ r) (h1 : r < l.length) : l.count r = 1 := by
  rw [h.2.2.count, if_pos (h.sur h0 h1)]
theorem right_of_cnt {l : List Int} (h24 : l.length ≤ 24) (h : ∀ r : Nat, r < l.length → l.count (r : Int) = 1) : RightP l := by
  have hsub : ∀ x ∈ rng l.length, x ∈ l := fun x hx => by
    obtain ⟨h0, h1⟩ := mem_rng.1 hx
    have := h x.toNat (by omega)
    rw [show ((x.toNat : Nat) : Int) = x from by omega] at this
    exact List.count_pos_iff.1 (by omega)
  have hsp : ∀ x ∈ l, x ∈ rng l.length := by
    intro x hx
    refine Decidable.byContradiction fun hn => ?_
    have hl := List.Nodup.length_le_of_subset (l₁ := rng l.length) (l₂ := l.erase x) (rng_nodup _) (by
      intro y hy
      exact (List.mem_erase_of_ne (by rintro rfl; exact hn hy)).2 (hsub y hy))
    rw [rng_len, List.length_erase_of_mem hx] at hl
    have : 0 < l.length := List.length_pos_of_mem hx
    omega
  refine ⟨h24, fun x hx => mem_rng.1 (hsp x hx), List.nodup_iff_count.2 fun a => ?_⟩
  by_cases ha : a ∈ l
  · obtain ⟨h0, h1⟩ := mem_rng.1 (hsp a ha)
    have := h a.toNat (by omega)
    rw [show ((a.toNat : Nat) : Int) = a from by omega] at this
    omega
  · rw [List.count_eq_zero.2 ha]; omega
/-- Whose each rank is, as far as place i: what is set, one behind the other. -/
def invS (l : List Int) (n : Nat) : Nat → List Int
  | 0 => List.replicate n 0
  | i + 1 => (invS l n i).set (l.getD i default).toNat i
theorem invS_len (l : List Int) (n : Nat) : ∀ i, (invS l n i).length = n
  | 0 => by simp [invS]
  | i + 1 => by simp [invS, invS_len l n i]
def invL (l : List Int) : List Int := invS l l.length l.length
theorem invL_len (l : List Int) : (invL l).length = l.length := invS_len _ _ _
theorem invS_get {l : List Int} (hr : ∀ x ∈ l, 0 ≤ x ∧ x < l.length) (hn : l.Nodup) : ∀ i, i ≤ l.length → ∀ j, j < i → (invS l l.length i).getD (l.getD j default).toNat default = j
  | 0, _, j, hj => absurd hj (by omega)
  | i + 1, hi, j, hj => by
    have hm := hr _ (getD_mem l i (by omega))
    have hmj := hr _ (getD_mem l j (by omega))
    unfold invS
    rw [getD_set _ _ _ _ (by rw [invS_len]; omega)]
    by_cases e : j = i
    · subst e; rw [if_pos rfl]
    · rw [if_neg, invS_get hr hn i (by omega) j (by omega)]
      intro hh
      exact e (nodup_inj hn (by omega) (by omega) (by omega))
theorem invL_get {l : List Int} (h : RightP l) (j : Nat) (hj : j < l.length) : (invL l).getD (l.getD j default).toNat default = j := invS_get h.2.1 h.2.2 l.length (Nat.le_refl _) j hj
theorem invL_right {l : List Int} (h : RightP l) : RightP (invL l) := by
  have key : ∀ r, r < l.length → ∃ j, j < l.length ∧ l.getD j default = (r : Nat) ∧ (invL l).getD r default = (j : Nat) := fun r hr => by
    obtain ⟨j, hj, e⟩ := mem_getD (h.sur (r := (r : Nat)) (by omega) (by omega))
    have := invL_get h j hj
    rw [e, Int.toNat_natCast] at this
    exact ⟨j, hj, e, this⟩
  refine ⟨by rw [invL_len]; exact h.1, fun x hx => ?_, ?_⟩
  · obtain ⟨r, hr, e⟩ := mem_getD hx
    rw [invL_len] at hr ⊢
    obtain ⟨j, hj, _, e2⟩ := key r hr
    omega
  · rw [List.nodup_iff_pairwise_ne, List.pairwise_iff_getElem]
    intro a b ha hb hab e
    have ha' := ha
    have hb' := hb
    rw [invL_len] at ha' hb'
    obtain ⟨j, hj, e1, e2⟩ := key a ha'
    obtain ⟨k, hk, e3, e4⟩ := key b hb'
    rw [getD_lt _ _ ha] at e2
    rw [getD_lt _ _ hb] at e4
    have : j = k := by omega
    subst this
    omega
theorem invL_invL {l : List Int} (h : RightP l) : invL (invL l) = l := by
  have hr := invL_right h
  refine ext_getD _ _ (by rw [invL_len, invL_len]) fun j hj => ?_
  rw [invL_len, invL_len] at hj
  have hm := h.2.1 _ (getD_mem l j hj)
  have h1 := invL_get h j hj
  have h2 := invL_get hr (l.getD j default).toNat (by rw [invL_len]; omega)
  rw [h1, Int.toNat_natCast] at h2
  rw [h2]; omega
/-! ### Drawn by a number -/
def fac : Nat → Nat
  | 0 => 1
  | n + 1 => (n + 1) * fac n
theorem fac_pos : ∀ n, 0 < fac n
  | 0 => by decide
  | n + 1 => Nat.mul_pos (by omega) (fac_pos n)
theorem fac_mono {a b : Nat} (h : a ≤ b) : fac a ≤ fac b := by
  induction h with
  | refl => exact Nat.le_refl _
  | step h ih => exact Nat.le_trans ih (Nat.le_mul_of_pos_left _ (by omega))
/-- What is left, and the number, behind i draws. -/
def dr (n a : Nat) : Nat → List Int × Nat
  | 0 => (rng n, a)
  | i + 1 => ((dr n a i).1.eraseIdx ((dr n a i).2 % (dr n a i).1.length), (dr n a i).2 / (dr n a i).1.length)
def drAt (n a i : Nat) : Nat := (dr n a i).2 % (dr n a i).1.length
/-- The vertex that is drawn then. -/
def drV (n a i : Nat) : Int := (dr n a i).1.getD (drAt n a i) default
def drawn (n a : Nat) : List Int := (List.range n).map (drV n a)
theorem drawn_len (n a : Nat) : (drawn n a).length = n := by simp [drawn]
theorem drawn_get (n a i : Nat) (h : i < n) : (drawn n a).getD i default = drV n a i := by
  rw [getD_lt _ _ (by rw [drawn_len]; exact h)]; simp [drawn]
theorem dr_len (n a : Nat) : ∀ i, i ≤ n → (dr n a i).1.length = n - i
  | 0, _ => by show (rng n).length = _; rw [rng_len]; rfl
  | i + 1, h => by
    have ih := dr_len n a i (by omega)
    show ((dr n a i).1.eraseIdx (drAt n a i)).length = _
    have hlt : drAt n a i < (dr n a i).1.length := Nat.mod_lt _ (by omega)
    rw [List.length_eraseIdx_of_lt hlt, ih]; omega
theorem drAt_lt (n a i : Nat) (h : i < n) : drAt n a i < (dr n a i).1.length := Nat.mod_lt _ (by rw [dr_len n a i (by omega)]; omega)
theorem dr_nodup (n a : Nat) : ∀ i, (dr n a i).1.Nodup
  | 0 => rng_nodup n
  | i + 1 => (dr_nodup n a i).eraseIdx _
theorem dr_sub (n a : Nat) : ∀ i x, x ∈ (dr n a i).1 → 0 ≤ x ∧ x < n
  | 0, x, h => mem_rng.1 h
  | i + 1, x, h => dr_sub n a i x (List.mem_of_mem_eraseIdx h)
theorem dr_mono (n a i : Nat) : ∀ j, ∀ x ∈ (dr n a (i + j)).1, x ∈ (dr n a i).1
  | 0, x, h => h
  | j + 1, x, h => dr_mono n a i j x (List.mem_of_mem_eraseIdx h)
theorem drV_mem (n a i : Nat) (h : i < n) : drV n a i ∈ (dr n a i).1 := getD_mem _ _ (drAt_lt n a i h)
theorem erase_not {l : List Int} (h : l.Nodup) {k : Nat} (hk : k < l.length) : l.getD k default ∉ l.eraseIdx k := by
  intro hm
  obtain ⟨i, hi, e⟩ := List.mem_eraseIdx_iff_getElem?.1 hm
  obtain ⟨hil, e2⟩ := List.getElem?_eq_some_iff.1 e
  refine hi (nodup_inj h hil hk ?_)
  rw [getD_lt l i hil, e2]
theorem drV_out (n a i : Nat) (h : i < n) : drV n a i ∉ (dr n a (i + 1)).1 := erase_not (dr_nodup n a i) (drAt_lt n a i h)
theorem drawn_right (n a : Nat) (hn : n ≤ 24) : RightP (drawn n a) := by
  refine ⟨by rw [drawn_len]; exact hn, fun x hx => ?_, ?_⟩
  · obtain ⟨i, hi, e⟩ := mem_getD hx
    rw [drawn_len] at hi ⊢
    rw [drawn_get n a i hi] at e
    exact e ▸ dr_sub n a i _ (drV_mem n a i hi)
  · rw [List.nodup_iff_pairwise_ne, List.pairwise_iff_getElem]
    intro i j hi hj hij e
    rw [drawn_len] at hi hj
    rw [← getD_lt _ _ (by rw [drawn_len]; exact hi), ← getD_lt _ _ (by rw [drawn_len]; exact hj), drawn_get n a i hi, drawn_get n a j hj] at e
    have h1 := drV_out n a i hi
    have h2 := drV_mem n a j hj
    rw [← e, show j = i + 1 + (j - i - 1) from by omega] at h2
    exact h1 (dr_mono n a (i + 1) (j - i - 1) _ h2)
/-- The order of a number. -/
def ofN (n a : Nat) : List Int := invL (drawn n a)
theorem ofN_len (n a : Nat) : (ofN n a).length = n := by unfold ofN; rw [invL_len, drawn_len]
theorem ofN_right (n a : Nat) (hn : n ≤ 24) : RightP (ofN n a) := invL_right (drawn_right n a hn)
/-- An order's number, as far as place i: what is left, the unit, the number. -/
def nst (by_ : List Int) : Nat → List Int × Nat × Nat
  | 0 => (rng by_.length, 1, 0)
  | i + 1 => ((nst by_ i).1.eraseIdx ((nst by_ i).1.idxOf (by_.getD i default)), (nst by_ i).2.1 * (nst by_ i).1.length, (nst by_ i).2.2 + (nst by_ i).2.1 * (nst by_ i).1.idxOf (by_.getD i default))
def numN (by_ : List Int) : Nat := (nst by_ by_.length).2.2
theorem nst_left {b : List Int} (h : RightP b) : ∀ i, i ≤ b.length → (nst b i).1.Nodup ∧ (∀ x, x ∈ (nst b i).1 ↔ x ∈ b ∧ x ∉ b.take i) ∧ (nst b i).1.length = b.length - i
  | 0, _ => ⟨rng_nodup _, fun x => by
      simp only [List.take_zero, List.not_mem_nil, not_false_eq_true, and_true]
      exact ⟨fun hx => let ⟨h0, h1⟩ := mem_rng.1 hx; h.sur h0 h1, fun hx => mem_rng.2 (h.2.1 x hx)⟩, rng_len _⟩
  | i + 1, hi => by
    obtain ⟨h1, h2, h3⟩ := nst_left h i (by omega)
    have hg := getD_mem b i (by omega)
    have hnt : b.getD i default ∉ b.take i := by
      intro hm
      obtain ⟨j, hj, e⟩ := mem_getD hm
      have hjl : j < i := by rw [List.length_take] at hj; omega
      rw [List.getD_eq_getElem?_getD, List.getElem?_take_of_lt hjl, ← List.getD_eq_getElem?_getD] at e
      have := nodup_inj h.2.2 (by omega) (by omega) e
      omega
    have hm : b.getD i default ∈ (nst b i).1 := (h2 _).2 ⟨hg, hnt⟩
    have hlt := List.idxOf_lt_length_of_mem hm
    have hget : (nst b i).1.getD ((nst b i).1.idxOf (b.getD i default)) default = b.getD i default := by rw [getD_lt _ _ hlt]; exact List.getElem_idxOf hlt
    refine ⟨h1.eraseIdx _, fun x => ?_, ?_⟩
    · show x ∈ (nst b i).1.eraseIdx _ ↔ _
      rw [take_get b i (by omega), List.mem_append, List.mem_singleton]
      constructor
      · intro hx
        have hx1 := (h2 x).1 (List.mem_of_mem_eraseIdx hx)
        refine ⟨hx1.1, fun hh => ?_⟩
        rcases hh with hh | rfl
        · exact hx1.2 hh
        · exact erase_not h1 hlt (by rw [hget]; exact hx)
      · rintro ⟨hb, hno⟩
        have hx : x ∈ (nst b i).1 := (h2 x).2 ⟨hb, fun hh => hno (.inl hh)⟩
        obtain ⟨q, hq, e⟩ := mem_getD hx
        refine List.mem_eraseIdx_iff_getElem?.2 ⟨q, fun hh => hno (.inr ?_), by rw [List.getElem?_eq_getElem hq, ← getD_lt _ _ hq, e]⟩
        rw [← e, hh, hget]
    · show ((nst b i).1.eraseIdx _).length = _
      rw [List.length_eraseIdx_of_lt hlt, h3]; omega
theorem nst_mem {b : List Int} (h : RightP b) (i : Nat) (hi : i < b.length) : b.getD i default ∈ (nst b i).1 := by
  refine ((nst_left h i (by omega)).2.1 _).2 ⟨getD_mem b i hi, fun hm => ?_⟩
  obtain ⟨j, hj, e⟩ := mem_getD hm
  have hjl : j < i := by rw [List.length_take] at hj; omega
  rw [List.getD_eq_getElem?_getD, List.getElem?_take_of_lt hjl, ← List.getD_eq_getElem?_getD] at e
  have := nodup_inj h.2.2 (by omega) (by omega) e
  omega
theorem nst_unit {b : List Int} (h : RightP b) : ∀ i, i ≤ b.length → (nst b i).2.1 * fac (b.length - i) = fac b.length ∧ (nst b i).2.2 < (nst b i).2.1
  | 0, _ => ⟨by show 1 * fac _ = _; rw [Nat.one_mul]; rfl, by show 0 < 1; omega⟩
  | i + 1, hi => by
    obtain ⟨h1, h2⟩ := nst_unit h i (by omega)
    have h3 := (nst_left h i (by omega)).2.2
    have hlt := List.idxOf_lt_length_of_mem (nst_mem h i (by omega))
    constructor
    · show (nst b i).2.1 * (nst b i).1.length * fac (b.length - (i + 1)) = _
      rw [h3, Nat.mul_assoc, ← h1]
      congr 1
      rw [show b.length - i = (b.length - (i + 1)) + 1 from by omega]; rfl
    · show (nst b i).2.2 + (nst b i).2.1 * (nst b i).1.idxOf (b.getD i default) < (nst b i).2.1 * (nst b i).1.length
      have : (nst b i).2.1 * ((nst b i).1.idxOf (b.getD i default) + 1) ≤ (nst b i).2.1 * (nst b i).1.length := Nat.mul_le_mul_left _ hlt
      rw [Nat.mul_add, Nat.mul_one] at this
      omega
theorem nst_unit_le {b : List Int} (h : RightP b) (i : Nat) (hi : i ≤ b.length) : (nst b i).2.1 ≤ fac b.length := by
  have := (nst_unit h i hi).1
  have hp := fac_pos (b.length - i)
  rw [← this]
  exact Nat.le_mul_of_pos_right _ hp
theorem nst_drawn (n a : Nat) (hn : n ≤ 24) : ∀ i, i ≤ n → (nst (drawn n a) i).1 = (dr n a i).1 ∧ (nst (drawn n a) i).2.2 + (nst (drawn n a) i).2.1 * (dr n a i).2 = a
  | 0, _ => ⟨by show rng (drawn n a).length = rng n; rw [drawn_len], by show 0 + 1 * a = a; omega⟩
  | i + 1, hi => by
    obtain ⟨h1, h2⟩ := nst_drawn n a hn i (by omega)
    have hlt := drAt_lt n a i (by omega)
    have hix : (nst (drawn n a) i).1.idxOf ((drawn n a).getD i default) = drAt n a i := by
      rw [h1, drawn_get n a i (by omega)]
      unfold drV
      rw [getD_lt _ _ hlt]
      exact (dr_nodup n a i).idxOf_getElem _ _
    constructor
    · show (nst (drawn n a) i).1.eraseIdx _ = (dr n a i).1.eraseIdx (drAt n a i)
      rw [hix, h1]
    · show (nst (drawn n a) i).2.2 + (nst (drawn n a) i).2.1 * (nst (drawn n a) i).1.idxOf ((drawn n a).getD i default) + (nst (drawn n a) i).2.1 * (nst (drawn n a) i).1.length * ((dr n a i).2 / (dr n a i).1.length) = a
      rw [hix, h1, Nat.add_assoc, Nat.mul_assoc, ← Nat.mul_add]
      unfold drAt
      rw [Nat.mod_add_div]; exact h2
theorem num_of (n a : Nat) (hn : n ≤ 24) : numN (invL (ofN n a)) = a % fac n := by
  unfold ofN
  rw [invL_invL (drawn_right n a hn)]
  have hr := drawn_right n a hn
  have h1 := (nst_drawn n a hn n (Nat.le_refl _)).2
  have h2 := nst_unit hr n (by rw [drawn_len]; omega)
  rw [drawn_len, Nat.sub_self, show fac 0 = 1 from rfl, Nat.mul_one] at h2
  unfold numN
  rw [drawn_len]
  have h3 : a = (nst (drawn n a) n).2.2 + fac n * (dr n a n).2 := by rw [← h2.1]; exact h1.symm
  have h4 : (nst (drawn n a) n).2.2 < fac n := by rw [← h2.1]; exact h2.2
  conv => rhs; rw [h3]
  rw [Nat.add_mul_mod_self_left, Nat.mod_eq_of_lt h4]
theorem dr_mod (n a q : Nat) : ∀ i, i ≤ n → (dr n (a + fac n * q) i).1 = (dr n a i).1 ∧ (dr n (a + fac n * q) i).2 = (dr n a i).2 + fac (n - i) * q
  | 0, _ => ⟨rfl, rfl⟩
  | i + 1, hi => by
    obtain ⟨h1, h2⟩ := dr_mod n a q i (by omega)
    have hl := dr_len n a i (by omega)
    have hf : fac (n - i) = (n - i) * fac (n - (i + 1)) := by rw [show n - i = (n - (i + 1)) + 1 from by omega]; rfl
    constructor
    · show (dr n (a + fac n * q) i).1.eraseIdx ((dr n (a + fac n * q) i).2 % (dr n (a + fac n * q) i).1.length) = (dr n a i).1.eraseIdx ((dr n a i).2 % (dr n a i).1.length)
      rw [h1, h2, hl, hf, Nat.mul_assoc, Nat.add_mul_mod_self_left]
    · show (dr n (a + fac n * q) i).2 / (dr n (a + fac n * q) i).1.length = (dr n a i).2 / (dr n a i).1.length + _
      rw [h1, h2, hl, hf, Nat.mul_assoc, Nat.add_mul_div_left _ _ (by omega)]
theorem drawn_mod (n a : Nat) : drawn n a = drawn n (a % fac n) := by
  have h := dr_mod n (a % fac n) (a / fac n)
  rw [Nat.mod_add_div] at h
  unfold drawn
  apply List.map_congr_left
  intro i hi
  rw [List.mem_range] at hi
  obtain ⟨h1, h2⟩ := h i (by omega)
  have hl := dr_len n (a % fac n) i (by omega)
  have hf : fac (n - i) = (n - i) * fac (n - (i + 1)) := by rw [show n - i = (n - (i + 1)) + 1 from by omega]; rfl
  unfold drV drAt
  rw [h1, h2, hl, hf, Nat.mul_assoc, Nat.add_mul_mod_self_left]
theorem ofN_mod (n a : Nat) : ofN n a = ofN n (a % fac n) := by unfold ofN; rw [← drawn_mod]
theorem ofN_iff (n a b : Nat) (hn : n ≤ 24) : ofN n a = ofN n b ↔ a % fac n = b % fac n := by
  constructor
  · intro h
    rw [← num_of n a hn, ← num_of n b hn, h]
  · intro h
    rw [ofN_mod n a, h, ← ofN_mod n b]
end Go.Proofs.Ytliofdfhimmjmaa
