/- What the laws of the queue lean on. No program in sight. -/
import Derived.Test.YtgbhccpjpimgfaaDoorMarkLaw
namespace Go.Proofs.YtgbhccpjpimgfaaDoor
open Go.Rr Go
set_option linter.unusedVariables false
namespace Mq
section
variable {rk : List Int} {s : Nat}
theorem pcode_zero {v : Int} (h : pcode rk s v = 0) : 0 ≤ v ∧ v < rk.length ∧ s.testBit (rk.getD v.toNat default).toNat = false := by
  unfold pcode at h
  split at h
  · cases h
  · split at h
    · cases h
    · rename_i h1 h2
      exact ⟨by omega, by omega, by simpa using h2⟩
theorem pcode_is {v : Int} (h0 : 0 ≤ v) (h1 : v < rk.length) (h : s.testBit (rk.getD v.toNat default).toNat = false) : pcode rk s v = 0 := by
  unfold pcode; rw [if_neg (by omega), h]; rfl
theorem pset_ne {v : Int} (h : ¬ pcode rk s v = 0) : pset rk s v = s := if_neg h
theorem setQ_with (hr : RightP rk) (hs : SOk rk.length s) {v : Int} (h : pcode rk s v = 0) : setQ rk (pset rk s v) = setQ rk s ||| bitN v := by
  obtain ⟨h0, h1, hb⟩ := pcode_zero h
  have h24 := hr.1
  have hv : v.toNat < rk.length := by omega
  refine set_eq _ _ (setQ_64 _ _) (or_lt _ _ (setQ_64 _ _) (bitN_lt _)) fun i hi => ?_
  rw [setQ_bit hr (pset_ok hr hs v) i hi, with_bit _ v i hi, setQ_bit hr hs i hi]
  have e : pset rk s v = s ||| bitN (rk.getD v.toNat default) := if_pos h
  rw [e]
  by_cases hin : i < rk.length
  · have hk := rk_rng hr hin
    have hkv := rk_rng hr hv
    rw [decide_eq_true hin, Bool.true_and, Bool.true_and, with_bit s _ _ (by omega)]
    congr 1
    rw [Bool.eq_iff_iff, decide_eq_true_iff, decide_eq_true_iff]
    constructor
    · intro e2
      have := rk_ne hr hin hv (by omega)
      omega
    · intro e2
      rw [show i = v.toNat by omega]; omega
  · rw [decide_eq_false hin, Bool.false_and, Bool.false_and, decide_eq_false (by omega)]; rfl
theorem frs_is (hr : RightP rk) (hs : SOk rk.length s) (h0 : s ≠ 0) : 0 ≤ frs rk s ∧ frs rk s < rk.length ∧ rk.getD (frs rk s).toNat default = fstS s := by
  have hf := fst_lt hs h0
  have hb := by_rng hr hf.2.1
  unfold frs
  rw [if_neg h0]
  exact ⟨hb.1, hb.2, by rw [rk_by hr hf.2.1, Int.toNat_of_nonneg hf.1]⟩
theorem tks_is (h0 : s ≠ 0) : tks rk s = s &&& (18446744073709551615 - bitN (fstS s)) := by unfold tks flr; rw [if_neg h0]
/-- The first one, put in again. -/
theorem put_back (hr : RightP rk) (hs : SOk rk.length s) (h0 : s ≠ 0) : pcode rk (tks rk s) (frs rk s) = 0 ∧ pset rk (tks rk s) (frs rk s) = s := by
  have hf := fst_lt hs h0
  have hx := frs_is hr hs h0
  have h24 := hr.1
  have hc : pcode rk (tks rk s) (frs rk s) = 0 := pcode_is hx.1 hx.2.1 (by
    rw [hx.2.2, tks_is h0, without_bit s _ _ (by omega), decide_eq_true (by omega)]; simp)
  refine ⟨hc, ?_⟩
  have e : pset rk (tks rk s) (frs rk s) = tks rk s ||| bitN (rk.getD (frs rk s).toNat default) := if_pos hc
  rw [e, hx.2.2, tks_is h0]
  refine set_eq _ _ (or_lt _ _ (and_lt _ _ hs.1) (bitN_lt _)) hs.1 fun i hi => ?_
  rw [with_bit _ _ i hi, without_bit s _ i hi]
  by_cases e : (i : Int) = fstS s
  · rw [decide_eq_true e, Bool.or_true, show i = (fstS s).toNat by omega, hf.2.2.1]
  · rw [decide_eq_false e]; simp
theorem setQ_out (hr : RightP rk) (hs : SOk rk.length s) (h0 : s ≠ 0) : inS (setQ rk s) (frs rk s) = true ∧ setQ rk (tks rk s) = setQ rk s &&& (18446744073709551615 - bitN (frs rk s)) := by
  have hx := frs_is hr hs h0
  have hf := fst_lt hs h0
  have h24 := hr.1
  constructor
  · unfold inS
    rw [decide_eq_true (by omega), Bool.true_and, setQ_bit hr hs _ (by omega), decide_eq_true (by omega), Bool.true_and, hx.2.2]
    exact hf.2.2.1
  · refine set_eq _ _ (setQ_64 _ _) (and_lt _ _ (setQ_64 _ _)) fun i hi => ?_
    rw [setQ_bit hr (tks_ok hs) i hi, without_bit _ _ i hi, setQ_bit hr hs i hi, tks_is h0]
    by_cases hin : i < rk.length
    · have hk := rk_rng hr hin
      rw [decide_eq_true hin, Bool.true_and, Bool.true_and, without_bit s _ _ (by omega)]
      congr 2
      rw [Bool.eq_iff_iff, decide_eq_true_iff, decide_eq_true_iff]
      constructor
      · intro e2
        have := rk_ne hr hin (show (frs rk s).toNat < rk.length by omega) (by rw [hx.2.2]; omega)
        omega
      · intro e2
        rw [show i = (frs rk s).toNat by omega, hx.2.2]; omega
    · rw [decide_eq_false hin]; simp
theorem lst_nodup (s : Nat) : (lst s).Nodup := List.Pairwise.filter _ List.nodup_range
theorem pop_setQ (hr : RightP rk) (hs : SOk rk.length s) : pop (setQ rk s) = pop s := by
  have h24 := hr.1
  rw [pop_len, pop_len]
  -- the ranks of the vertices
  have hn1 : ((lst (setQ rk s)).map fun v => (rk.getD v default).toNat).Nodup := by
    rw [List.nodup_iff_pairwise_ne, List.pairwise_map]
    refine ((List.nodup_iff_pairwise_ne.1 (lst_nodup (setQ rk s))).imp_of_mem ?_)
    intro a b ha hb hab e
    have h1 := (mem_lst _ _).1 ha
    have h2 := (mem_lst _ _).1 hb
    rw [setQ_bit hr hs a h1.1, Bool.and_eq_true, decide_eq_true_iff] at h1
    rw [setQ_bit hr hs b h2.1, Bool.and_eq_true, decide_eq_true_iff] at h2
    have k1 := rk_rng hr h1.2.1
    have k2 := rk_rng hr h2.2.1
    exact hab (rk_ne hr h1.2.1 h2.2.1 (by omega))
  have i1 : ((lst (setQ rk s)).map fun v => (rk.getD v default).toNat) ⊆ lst s := fun r hm => by
    obtain ⟨v, hv, rfl⟩ := List.mem_map.1 hm
    have h1 := (mem_lst _ _).1 hv
    rw [setQ_bit hr hs v h1.1, Bool.and_eq_true, decide_eq_true_iff] at h1
    have k1 := rk_rng hr h1.2.1
    exact (mem_lst _ _).2 ⟨by omega, h1.2.2⟩
  have i2 : lst s ⊆ ((lst (setQ rk s)).map fun v => (rk.getD v default).toNat) := fun r hm => by
    have hrn := lst_mem_lt hs hm
    have hb := by_rng hr hrn
    have hrk := rk_by hr hrn
    refine List.mem_map.2 ⟨((invL rk).getD r default).toNat, (mem_lst _ _).2 ⟨by omega, ?_⟩, by rw [hrk, Int.toNat_natCast]⟩
    rw [setQ_bit hr hs _ (by omega), decide_eq_true (by omega), Bool.true_and, hrk, Int.toNat_natCast]
    exact ((mem_lst _ _).1 hm).2
  have a1 := List.Nodup.length_le_of_subset hn1 i1
  have a2 := List.Nodup.length_le_of_subset (lst_nodup s) i2
  rw [List.length_map] at a1 a2
  omega
theorem setQ_zero (rk : List Int) : setQ rk 0 = 0 := by unfold setQ alL lstI; rw [lst_zero]; rfl
theorem tks_zero (rk : List Int) : tks rk 0 = 0 := by unfold tks; rw [Nat.zero_and]
/-- From the rank k on all wait. -/
theorem from_fst (hs : SOk rk.length s) {k : Nat} (hk : k < rk.length) (h : lst s = (List.range rk.length).drop k) : s ≠ 0 ∧ fstS s = k ∧ pop s = rk.length - k ∧ lst (tks rk s) = (List.range rk.length).drop (k + 1) := by
  have h0 : s ≠ 0 := fun e => by
    rw [e, lst_zero] at h
    have := congrArg List.length h
    rw [List.length_drop, List.length_range] at this
    simp only [List.length_nil] at this; omega
  have hf := fst_lt hs h0
  refine ⟨h0, ?_, ?_, ?_⟩
  · rw [hf.2.2.2.1, h, List.getD_eq_getElem?_getD, List.getElem?_drop, List.getElem?_range (by omega)]; rfl
  · rw [pop_len, h, List.length_drop, List.length_range]
  · rw [tks_lst hs h0, h, List.tail_drop]
theorem lst_full (hr : RightP rk) : lst (belN (rk.length : Int)) = (List.range rk.length).drop 0 := by
  have h24 := hr.1
  have e : ∀ i, i < 64 → (belN (rk.length : Int)).testBit i = decide (i < rk.length) := fun i hi => by rw [belN_bit _ i hi]; simp
  unfold lst
  rw [List.drop_zero]
  have key : ∀ n, n ≤ 64 → (List.range n).filter (belN (rk.length : Int)).testBit = List.range (min n rk.length) := by
    intro n
    induction n with
    | zero => intro _; rw [Nat.zero_min]; rfl
    | succ n ih =>
      intro hn
      rw [List.range_succ, List.filter_append, ih (by omega)]
      by_cases h : n < rk.length
      · have : (belN (rk.length : Int)).testBit n = true := by rw [e n (by omega), decide_eq_true h]
        rw [List.filter_cons, this, if_pos rfl, show min (n + 1) rk.length = min n rk.length + 1 by omega, List.range_succ, show min n rk.length = n by omega]; rfl
      · have : (belN (rk.length : Int)).testBit n = false := by rw [e n (by omega), decide_eq_false h]
        rw [List.filter_cons, this, show min (n + 1) rk.length = min n rk.length by omega]; simp
  rw [key 64 (Nat.le_refl _), show min 64 rk.length = rk.length by omega]
/-- Taken one by one. -/
theorem drop_take (hr : RightP rk) {s0 : Nat} (hs : SOk rk.length s) {i : Nat} (h : lst s = (lst s0).drop i) (hi : i < (lst s0).length) : s ≠ 0 ∧ frs rk s = (alL rk s0).getD i default ∧ lst (tks rk s) = (lst s0).drop (i + 1) := by
  have h0 : s ≠ 0 := fun e => by
    rw [e, lst_zero] at h
    have := congrArg List.length h
    rw [List.length_drop] at this
    simp only [List.length_nil] at this; omega
  have hf := fst_lt hs h0
  refine ⟨h0, ?_, by rw [tks_lst hs h0, h, List.tail_drop]⟩
  unfold frs
  rw [if_neg h0, alL_get rk s0 i hi, hf.2.2.2.1, h, Int.toNat_natCast]
  congr 1
  rw [List.getD_eq_getElem?_getD, List.getElem?_drop, ← List.getD_eq_getElem?_getD]; rfl
end
end Mq
end Go.Proofs.YtgbhccpjpimgfaaDoor
