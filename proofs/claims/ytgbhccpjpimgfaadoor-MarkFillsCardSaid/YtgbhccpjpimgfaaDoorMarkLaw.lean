/- Vertices that wait by rank, plainly. No program in sight. -/
import Derived.Test.YtgbhccpjpimgfaaDoorBits
import Derived.Test.YtgbhccpjpimgfaaDoorPermLaw
namespace Go.Proofs.YtgbhccpjpimgfaaDoor
open Go.Rr Go
set_option linter.unusedVariables false
namespace Mq
/-- The ranks that wait: those of vertices only. -/
def SOk (n s : Nat) : Prop := s < 18446744073709551616 ∧ ∀ i, i < 64 → s.testBit i = true → i < n
theorem SOk.zero (n : Nat) : SOk n 0 := ⟨by decide, fun i _ h => by rw [Nat.zero_testBit] at h; cases h⟩
/-- All that wait, by rank. -/
def alL (rk : List Int) (s : Nat) : List Int := (lstI s).map fun r => (invL rk).getD r.toNat default
theorem alL_len (rk : List Int) (s : Nat) : (alL rk s).length = (lst s).length := by unfold alL; rw [List.length_map, lstI_len]
theorem alL_get (rk : List Int) (s j : Nat) (h : j < (lst s).length) : (alL rk s).getD j default = (invL rk).getD ((lst s).getD j default) default := by
  unfold alL lstI
  simp [List.getD_eq_getElem?_getD, h]
theorem lst_mem_lt {n s r : Nat} (hs : SOk n s) (h : r ∈ lst s) : r < n := hs.2 r ((mem_lst s r).1 h).1 ((mem_lst s r).1 h).2
theorem lst_get_mem (s j : Nat) (h : j < (lst s).length) : (lst s).getD j default ∈ lst s := by
  rw [List.getD_eq_getElem?_getD, List.getElem?_eq_getElem h]; exact List.getElem_mem _
section
variable {rk : List Int} {s : Nat}
theorem rk_rng (hr : RightP rk) {v : Nat} (h : v < rk.length) : 0 ≤ rk.getD v default ∧ rk.getD v default < rk.length := hr.2.1 _ (getD_mem rk v h)
theorem by_rng (hr : RightP rk) {r : Nat} (h : r < rk.length) : 0 ≤ (invL rk).getD r default ∧ (invL rk).getD r default < rk.length := by
  have h2 := (invL_right hr).2.1 _ (getD_mem (invL rk) r (by rw [invL_len]; exact h))
  rwa [invL_len] at h2
/-- The rank of a vertex, and whose it is. -/
theorem by_rk (hr : RightP rk) {v : Nat} (h : v < rk.length) : (invL rk).getD (rk.getD v default).toNat default = v := invL_get hr v h
theorem rk_by (hr : RightP rk) {r : Nat} (h : r < rk.length) : rk.getD ((invL rk).getD r default).toNat default = r := by
  have := invL_get (invL_right hr) r (by rw [invL_len]; exact h)
  rwa [invL_invL hr] at this
theorem rk_iff (hr : RightP rk) {v r : Nat} (hv : v < rk.length) (h : r < rk.length) : rk.getD v default = r ↔ (invL rk).getD r default = v := by
  constructor
  · intro e
    have := by_rk hr hv
    rw [e, Int.toNat_natCast] at this; exact this
  · intro e
    have := rk_by hr h
    rw [e, Int.toNat_natCast] at this; exact this
theorem mem_alL (hr : RightP rk) (hs : SOk rk.length s) (v : Nat) : (v : Int) ∈ alL rk s ↔ v < rk.length ∧ s.testBit (rk.getD v default).toNat = true := by
  unfold alL lstI
  simp only [List.map_map, List.mem_map]
  constructor
  · rintro ⟨r, hm, e⟩
    have hrn := lst_mem_lt hs hm
    have hb := by_rng hr hrn
    have e' : (invL rk).getD r default = (v : Int) := e
    have hv : v < rk.length := by omega
    refine ⟨hv, ?_⟩
    rw [(rk_iff hr hv hrn).2 e', Int.toNat_natCast]
    exact ((mem_lst s r).1 hm).2
  · rintro ⟨hv, hb⟩
    have hk := rk_rng hr hv
    have h24 := hr.1
    exact ⟨(rk.getD v default).toNat, (mem_lst s _).2 ⟨by omega, hb⟩, by_rk hr hv⟩
theorem alL_rng (hr : RightP rk) (hs : SOk rk.length s) {x : Int} (h : x ∈ alL rk s) : 0 ≤ x ∧ x < rk.length := by
  unfold alL lstI at h
  simp only [List.map_map, List.mem_map] at h
  obtain ⟨r, hm, rfl⟩ := h
  exact by_rng hr (lst_mem_lt hs hm)
/-- All that wait, as a set. -/
def setQ (rk : List Int) (s : Nat) : Nat := orL (alL rk s)
theorem setQ_bit (hr : RightP rk) (hs : SOk rk.length s) (i : Nat) (hi : i < 64) : (setQ rk s).testBit i = (decide (i < rk.length) && s.testBit (rk.getD i default).toNat) := by
  unfold setQ
  rw [orL_bit _ i hi, Bool.eq_iff_iff, decide_eq_true_iff, mem_alL hr hs i]; simp
theorem setQ_lt (hr : RightP rk) (hs : SOk rk.length s) : setQ rk s < 16777216 := by
  refine Nat.lt_pow_two_of_testBit (n := 24) _ fun i hi => ?_
  rcases Nat.lt_or_ge i 64 with h | h
  · rw [setQ_bit hr hs i h, decide_eq_false (by have := hr.1; omega), Bool.false_and]
  · exact bit_high _ i (orL_lt _) h
theorem setQ_64 (rk : List Int) (s : Nat) : setQ rk s < 18446744073709551616 := orL_lt _
/-- What is put in. -/
def pcode (rk : List Int) (s : Nat) (v : Int) : Int := if v < 0 ∨ (rk.length : Int) ≤ v then 1 else if s.testBit (rk.getD v.toNat default).toNat = true then 5 else 0
def pset (rk : List Int) (s : Nat) (v : Int) : Nat := if pcode rk s v = 0 then s ||| bitN (rk.getD v.toNat default) else s
theorem pset_ok (hr : RightP rk) (hs : SOk rk.length s) (v : Int) : SOk rk.length (pset rk s v) := by
  unfold pset
  split
  · rename_i h
    have hv : ¬ (v < 0 ∨ (rk.length : Int) ≤ v) := fun e => by unfold pcode at h; rw [if_pos e] at h; cases h
    refine ⟨or_lt _ _ hs.1 (bitN_lt _), fun i hi hb => ?_⟩
    rw [with_bit s _ i hi, Bool.or_eq_true] at hb
    rcases hb with hb | hb
    · exact hs.2 i hi hb
    · have := of_decide_eq_true hb
      have hk := rk_rng hr (show v.toNat < rk.length by omega)
      omega
  · exact hs
theorem less_ok (hs : SOk rk.length s) (r : Int) : SOk rk.length (s &&& (18446744073709551615 - bitN r)) :=
  ⟨and_lt _ _ hs.1, fun i hi hb => hs.2 i hi (by rw [without_bit s r i hi, Bool.and_eq_true] at hb; exact hb.1)⟩
/-- The first one's rank; its vertex. -/
def flr (rk : List Int) (s : Nat) : Int := if s = 0 then (rk.length : Int) else fstS s
def frs (rk : List Int) (s : Nat) : Int := if s = 0 then 0 else (invL rk).getD (fstS s).toNat default
def tks (rk : List Int) (s : Nat) : Nat := s &&& (18446744073709551615 - bitN (flr rk s))
theorem tks_ok (hs : SOk rk.length s) : SOk rk.length (tks rk s) := less_ok hs _
theorem fst_lt (hs : SOk rk.length s) (h0 : s ≠ 0) : 0 ≤ fstS s ∧ (fstS s).toNat < rk.length ∧ s.testBit (fstS s).toNat = true ∧ fstS s = ((lst s).getD 0 default : Nat) ∧ 0 < (lst s).length := by
  obtain ⟨k1, k2, k3, _⟩ := ctz_spec s h0 hs.1
  have e : fstS s = (Lib.ctz 64 s : Int) := by unfold fstS; rw [if_neg h0]
  have hl := lst_cons s h0 hs.1
  refine ⟨by omega, ?_, ?_, ?_, by rw [hl]; simp⟩
  · rw [e, Int.toNat_natCast]; exact hs.2 _ k1 k2
  · rw [e, Int.toNat_natCast]; exact k2
  · rw [e, hl]; rfl
theorem tks_lst (hs : SOk rk.length s) (h0 : s ≠ 0) : lst (tks rk s) = (lst s).tail := by
  have hl := lst_cons s h0 hs.1
  obtain ⟨k1, k2, k3, _⟩ := ctz_spec s h0 hs.1
  have e : fstS s = (Lib.ctz 64 s : Int) := by unfold fstS; rw [if_neg h0]
  have hset : tks rk s = s &&& (s - 1) := by
    refine set_eq _ _ (and_lt _ _ hs.1) (and_lt _ _ hs.1) fun i hi => ?_
    have hm : (s &&& (s - 1)).testBit i = decide (i ∈ lst (s &&& (s - 1))) := by
      rw [Bool.eq_iff_iff, decide_eq_true_iff, mem_lst]
      exact ⟨fun h => ⟨hi, h⟩, fun h => h.2⟩
    have hs2 : s.testBit i = decide (i ∈ lst s) := by
      rw [Bool.eq_iff_iff, decide_eq_true_iff, mem_lst]
      exact ⟨fun h => ⟨hi, h⟩, fun h => h.2⟩
    have hnd : (lst s).Nodup := List.Pairwise.filter _ List.nodup_range
    rw [hl] at hnd
    have hni := (List.nodup_cons.1 hnd).1
    unfold tks flr
    rw [if_neg h0, without_bit s _ i hi, hm, hs2, hl, e, Bool.eq_iff_iff]
    simp only [Bool.and_eq_true, Bool.not_eq_true', decide_eq_false_iff_not, decide_eq_true_iff, List.mem_cons]
    constructor
    · rintro ⟨h1 | h1, h2⟩
      · exact absurd (by rw [h1]) h2
      · exact h1
    · intro h1
      exact ⟨.inr h1, fun h2 => hni (by rwa [show i = Lib.ctz 64 s from by omega] at h1)⟩
  rw [hset, hl]; rfl
theorem lst_nil (hs : s < 18446744073709551616) : lst s = [] ↔ s = 0 := by
  constructor
  · intro h
    refine Decidable.byContradiction fun h0 => ?_
    rw [lst_cons s h0 hs] at h; cases h
  · rintro rfl; exact lst_zero
/-- Whether each waits, as the document keeps it. -/
structure WR (rk : List Int) (s : Nat) (W : List Bool) : Prop where
  len : W.length = rk.length
  get : ∀ v, v < rk.length → W.getD v default = s.testBit (rk.getD v default).toNat
theorem WR.zero (rk : List Int) : WR rk 0 (List.replicate rk.length false) := ⟨by simp, fun v h => by
  rw [Nat.zero_testBit, List.getD_eq_getElem?_getD, List.getElem?_replicate, if_pos h]; rfl⟩
theorem gsB (l : List Bool) (i j : Nat) (x : Bool) (h : i < l.length) : (l.set i x).getD j default = if j = i then x else l.getD j default := by
  simp only [List.getD_eq_getElem?_getD, List.getElem?_set]
  by_cases e : i = j
  · subst e; simp [h]
  · simp [e, Ne.symm e]
theorem rk_ne (hr : RightP rk) {v u : Nat} (hv : v < rk.length) (hu : u < rk.length) (e : rk.getD v default = rk.getD u default) : v = u := nodup_inj hr.2.2 hv hu e
theorem WR.put {W : List Bool} (h : WR rk s W) (hr : RightP rk) {v : Nat} (hv : v < rk.length) : WR rk (s ||| bitN (rk.getD v default)) (W.set v true) := by
  refine ⟨by simp [h.len], fun u hu => ?_⟩
  have hk := rk_rng hr hu
  have h24 := hr.1
  rw [gsB _ _ _ _ (by rw [h.len]; exact hv), with_bit s _ _ (by omega)]
  by_cases e : u = v
  · subst e; rw [if_pos rfl, decide_eq_true (by omega), Bool.or_true]
  · rw [if_neg e, h.get u hu, decide_eq_false (fun e2 => e (rk_ne hr hu hv (by omega))), Bool.or_false]
theorem WR.out {W : List Bool} (h : WR rk s W) (hr : RightP rk) {v : Nat} (hv : v < rk.length) : WR rk (s &&& (18446744073709551615 - bitN (rk.getD v default))) (W.set v false) := by
  refine ⟨by simp [h.len], fun u hu => ?_⟩
  have hk := rk_rng hr hu
  have h24 := hr.1
  rw [gsB _ _ _ _ (by rw [h.len]; exact hv), without_bit s _ _ (by omega)]
  by_cases e : u = v
  · subst e; rw [if_pos rfl, decide_eq_true (by omega)]; simp
  · rw [if_neg e, h.get u hu, decide_eq_false (fun e2 => e (rk_ne hr hu hv (by omega)))]; simp
theorem WR.full (hr : RightP rk) {W : List Bool} (hl : W.length = rk.length) (hw : ∀ v, v < rk.length → W.getD v default = true) : WR rk (belN (rk.length : Int)) W :=
  ⟨hl, fun v hv => by
    have hk := rk_rng hr hv
    have h24 := hr.1
    rw [hw v hv, belN_bit _ _ (by omega), decide_eq_true (by omega)]⟩
theorem full_ok (hr : RightP rk) : SOk rk.length (belN (rk.length : Int)) := ⟨belN_lt _, fun i hi h => by
  rw [belN_bit _ i hi] at h
  have := of_decide_eq_true h
  omega⟩
end
end Mq
end Go.Proofs.YtgbhccpjpimgfaaDoor
