/- More of walks, plainly: joined, cut, broken. No program in sight. -/
import Derived.Test.YtakmbbgnnbpkoaaWalk2
namespace Go.Proofs.Ytakmbbgnnbpkoaa
open Go.Rr Go
set_option linter.unusedVariables false
namespace Gr
theorem arcQ_at {s : St} {id : Int} (h : pl id) : arcQ s id = (s id.toNat).a := if_pos h
theorem thB_at {s : St} {id : Int} (h : pl id) : thB s id = (s id.toNat).tk := by unfold thB; rw [decide_eq_true h, Bool.true_and]
theorem out_mem {s : St} {v id : Int} (h : id ∈ outI s v) : pl id ∧ (s id.toNat).tk = true ∧ (s id.toNat).a.t = v := by
  obtain ⟨h1, h2⟩ := mem_lstP.1 h
  unfold outP at h2
  rw [Bool.and_eq_true, decide_eq_true_eq] at h2
  exact ⟨h1, h2.1, h2.2⟩
theorem led_step {s : St} {v id : Int} {xs : List Int} (h0 : (wrun s v xs).2.2 = 0) (hm : id ∈ outI s (wrun s v xs).2.1) (hc : (s id.toNat).a.cl = false) :
    wrun s v (xs ++ [id]) = ((wrun s v xs).1 ++ [(s id.toNat).a.h], (s id.toNat).a.h, 0) := by
  obtain ⟨h1, h2, h3⟩ := out_mem hm
  have hz : nextW s (wrun s v xs).2.1 id = ((arcQ s id).h, 0) := nextW_0 (by rw [thB_at h1]; exact h2) (by rw [arcQ_at h1, hc]; decide) (by rw [arcQ_at h1]; exact h3)
  rw [wrun_snoc, wst_ok h0 (by rw [hz]), hz, arcQ_at h1]
theorem wfold_irr {s : St} : ∀ (l : List Int) (o o' : List Int) (x : Int × Int), (l.foldl (wst s) (o, x)).2 = (l.foldl (wst s) (o', x)).2
  | [], o, o', x => rfl
  | id :: l, o, o', x => by
    simp only [List.foldl_cons]
    unfold wst
    dsimp only
    by_cases h : x.2 ≠ 0
    · rw [if_pos h, if_pos h]; exact wfold_irr l o o' x
    · rw [if_neg h, if_neg h]
      by_cases h2 : (nextW s x.1 id).2 = 0
      · rw [if_pos h2, if_pos h2]; exact wfold_irr l _ _ _
      · rw [if_neg h2, if_neg h2]; exact wfold_irr l _ _ _
theorem wrun_join {s : St} {v : Int} {xs ys : List Int} (h : (wrun s v xs).2.2 = 0) : (wrun s v (xs ++ ys)).2 = (wrun s (wrun s v xs).2.1 ys).2 := by
  rw [wrun_app]
  have e : wrun s v xs = ((wrun s v xs).1, (wrun s v xs).2.1, 0) := Prod.ext rfl (Prod.ext rfl h)
  rw [e]
  exact wfold_irr ys _ _ _
theorem wfold_pre {s : St} : ∀ (l : List Int) (b : WS), ∃ r, (l.foldl (wst s) b).1 = b.1 ++ r
  | [], b => ⟨[], by simp⟩
  | id :: l, b => by
    obtain ⟨r, hr⟩ := wfold_pre l (wst s b id)
    rw [List.foldl_cons, hr]
    unfold wst
    split
    · exact ⟨r, rfl⟩
    · split
      · exact ⟨[(nextW s b.2.1 id).1] ++ r, by simp⟩
      · exact ⟨r, rfl⟩
theorem wrun_pre {n most : Int} {s : St} (hg : GOk n most s) {v : Int} {xs : List Int} {i : Nat} (hi : i ≤ xs.length) (h : (wrun s v xs).2.2 = 0) : (wrun s v (xs.take i)).1 = (wrun s v xs).1.take (i + 1) := by
  have h1 := wrun_app s v (xs.take i) (xs.drop i)
  rw [List.take_append_drop] at h1
  obtain ⟨r, hr⟩ := wfold_pre (s := s) (xs.drop i) (wrun s v (xs.take i))
  rw [← h1] at hr
  rw [hr, ← (wrun_good hg (v := v) (l := xs) i hi (wrun_ok i h)).len, List.take_left]
theorem end_rng {n most : Int} {s : St} (hg : GOk n most s) {v : Int} {xs : List Int} (hv : vxW n v) (h : (wrun s v xs).2.2 = 0) : vxW n (wrun s v xs).2.1 := by
  have hgd := wgood_all hg h
  refine hgd.rng hv _ ?_
  rw [← hgd.last]
  have hl : xs.length < (wrun s v xs).1.length := by rw [hgd.len]; omega
  rw [getD_of hl]
  exact List.getElem_mem hl
theorem ccode_ok {n most : Int} {s : St} (hg : GOk n most s) {v : Int} {xs : List Int} (hv : vxW n v) (h : (wrun s v xs).2.2 = 0) : ccode n s v (wrun s v xs).2.1 xs = 0 := by
  unfold ccode
  rw [if_neg (fun hh => hh ⟨hv, end_rng hg hv h⟩), if_neg (fun hh => hh h), if_neg (fun hh => hh rfl)]
theorem ccode_else {n : Int} {s : St} {v u : Int} {xs : List Int} (hv : vxW n v) (hu : vxW n u) (h : (wrun s v xs).2.2 = 0) (hn : u ≠ (wrun s v xs).2.1) : ccode n s v u xs = 8 := by
  unfold ccode
  rw [if_neg (fun hh => hh ⟨hv, hu⟩), if_neg (fun hh => hh h), if_pos (fun hh => hn hh.symm)]
theorem ccode_bad {n e : Int} {s : St} {v u : Int} {xs : List Int} (hv : vxW n v) (hu : vxW n u) (h : (wrun s v xs).2.2 = e) (he : e ≠ 0) : ccode n s v u xs = e := by
  unfold ccode
  rw [if_neg (fun hh => hh ⟨hv, hu⟩), if_pos (by rw [h]; exact he), h]
/-- All are there. -/
theorem nextW_th {s : St} {v id : Int} (h : (nextW s v id).2 = 0) : thB s id = true := by
  cases ht : thB s id with
  | true => rfl
  | false => unfold nextW at h; rw [if_pos (by rw [ht]; decide)] at h; exact absurd h (by decide)
theorem nextW_pl {s : St} {v id : Int} (h : (nextW s v id).2 = 0) : pl id ∧ (s id.toNat).tk = true ∧ (s id.toNat).a.cl = false := by
  have h1 := nextW_th h
  have hp : pl id := by
    unfold thB at h1
    rw [Bool.and_eq_true, decide_eq_true_eq] at h1
    exact h1.1
  refine ⟨hp, by rw [← thB_at hp]; exact h1, ?_⟩
  unfold nextW at h
  rw [if_neg (fun hh => hh h1)] at h
  cases hc : (arcQ s id).cl with
  | true => rw [if_pos hc] at h; exact absurd h (by decide)
  | false => rw [← arcQ_at hp]; exact hc
theorem all_th {s : St} : ∀ (l : List Int) (b : WS), b.2.2 = 0 → (l.foldl (wst s) b).2.2 = 0 → ∀ id ∈ l, pl id ∧ (s id.toNat).tk = true ∧ (s id.toNat).a.cl = false
  | [], b, _, _, id, hi => by cases hi
  | x :: l, b, hb, h, id, hi => by
    rw [List.foldl_cons] at h
    by_cases hz : (nextW s b.2.1 x).2 = 0
    · rcases List.mem_cons.1 hi with rfl | hi
      · exact nextW_pl hz
      · exact all_th l _ (by rw [wst_ok hb hz]) h id hi
    · rw [wst_stuck l _ (by rw [wst_bad hb hz]; exact hz), wst_bad hb hz] at h
      exact absurd h hz
theorem srun_add {n most : Int} {s : St} (hg : GOk n most s) : ∀ (l : List Int) (b : Int), Dst b → (∀ id ∈ l, thB s id = true) → l.foldl (sst s) (b, true) = (two b (l.foldl (sst s) (0, true)).1, true)
  | [], b, hb, _ => by rw [List.foldl_nil, List.foldl_nil, two_zero hb]
  | id :: l, b, hb, h => by
    have h1 := h id (List.mem_cons_self ..)
    have h2 : ∀ x ∈ l, thB s x = true := fun x hx => h x (List.mem_cons_of_mem _ hx)
    have e : ∀ c, sst s (c, true) id = (two c (arcQ s id).w, true) := fun c => by unfold sst; rw [if_neg (by simp), if_pos h1]
    have hw := arcQ_dst hg id
    have h0 : Dst 0 := ⟨by omega, by omega⟩
    rw [List.foldl_cons, List.foldl_cons, e, e, zero_two hw, srun_add hg l _ (two_dst hb hw) h2, srun_add hg l _ hw h2]
    have hS : Dst (l.foldl (sst s) (0, true)).1 := srun_dst hg l (0, true) h0
    rw [two_assoc hb hw hS]
theorem srun_join {n most : Int} {s : St} (hg : GOk n most s) {xs ys : List Int} (h1 : ∀ id ∈ xs, thB s id = true) (h2 : ∀ id ∈ ys, thB s id = true) : (srun s (xs ++ ys)).1 = two (srun s xs).1 (srun s ys).1 := by
  have h0 : Dst 0 := ⟨by omega, by omega⟩
  have hb : Dst (srun s xs).1 := srun_dst hg xs (0, true) h0
  have e1 : srun s xs = ((srun s xs).1, true) := Prod.ext rfl (by unfold srun; rw [srun_add hg xs 0 h0 h1])
  rw [srun_app, e1, srun_add hg ys _ hb h2]
  rfl
theorem srun_none {s : St} : ∀ (l : List Int) (b : Int), (∃ id ∈ l, thB s id = false) → (l.foldl (sst s) (b, true)).1 = 4611686018427387906
  | [], b, h => by obtain ⟨id, h, _⟩ := h; cases h
  | x :: l, b, h => by
    rw [List.foldl_cons]
    cases hx : thB s x with
    | false =>
      have e : sst s (b, true) x = (4611686018427387906, false) := by unfold sst; rw [if_neg (by simp), if_neg (by rw [hx]; decide)]
      rw [e, sst_stuck l _ rfl]
    | true =>
      have e : sst s (b, true) x = (two b (arcQ s x).w, true) := by unfold sst; rw [if_neg (by simp), if_pos hx]
      rw [e]
      obtain ⟨id, h1, h2⟩ := h
      refine srun_none l _ ⟨id, ?_, h2⟩
      rcases List.mem_cons.1 h1 with rfl | h1
      · rw [hx] at h2; cases h2
      · exact h1
theorem srun_same {s s' : St} (h : ∀ id, thB s' id = thB s id ∧ (arcQ s' id).w = (arcQ s id).w) (l : List Int) : srun s' l = srun s l := by
  have e : sst s' = sst s := by
    funext b id
    unfold sst
    rw [(h id).1, (h id).2]
  unfold srun
  rw [e]
theorem broken {s s' : St} {id e : Int} (ho : ∀ x a, x ≠ id → nextW s' a x = nextW s a x) (he : ∀ a, (nextW s' a id).2 = e) (h0 : e ≠ 0) : ∀ (l : List Int) (b : WS), b.2.2 = 0 → (l.foldl (wst s) b).2.2 = 0 → id ∈ l → (l.foldl (wst s') b).2.2 = e
  | [], b, _, _, hi => by cases hi
  | x :: l, b, hb, h, hi => by
    rw [List.foldl_cons] at h ⊢
    by_cases hx : x = id
    · subst hx
      have hz : ¬ (nextW s' b.2.1 x).2 = 0 := by rw [he]; exact h0
      rw [wst_stuck l _ (by rw [wst_bad hb hz]; exact hz), wst_bad hb hz]
      exact he _
    · have hn := ho x b.2.1 hx
      by_cases hz : (nextW s b.2.1 x).2 = 0
      · have e1 : wst s' b x = wst s b x := by rw [wst_ok hb hz, wst_ok hb (by rw [hn]; exact hz), hn]
        rw [e1]
        refine broken ho he h0 l _ (by rw [wst_ok hb hz]) h ?_
        rcases List.mem_cons.1 hi with h1 | h1
        · exact absurd h1.symm hx
        · exact h1
      · rw [wst_stuck l _ (by rw [wst_bad hb hz]; exact hz), wst_bad hb hz] at h
        exact absurd h hz
theorem upS_q {s : St} {id x : Int} {z : Sl} (hp : pl id) (h : x ≠ id) : arcQ (upS s id.toNat z) x = arcQ s x ∧ thB (upS s id.toNat z) x = thB s x := by
  unfold arcQ thB
  by_cases hx : pl x
  · have := hx.1
    have := hp.1
    rw [if_pos hx, if_pos hx, upS_other (by omega)]; exact ⟨rfl, rfl⟩
  · rw [if_neg hx, if_neg hx, decide_eq_false hx]; exact ⟨rfl, rfl⟩
theorem next_up {s : St} {id x a : Int} {z : Sl} (hp : pl id) (h : x ≠ id) : nextW (upS s id.toNat z) a x = nextW s a x := by
  unfold nextW; rw [(upS_q hp h).1, (upS_q hp h).2]
theorem gone_law {s : St} {v id : Int} {xs : List Int} (h : (wrun s v xs).2.2 = 0) (hi : id ∈ xs) : thC s id = 0 ∧ (wrun (delS s id) v xs).2.2 = 3 ∧ (srun (delS s id) xs).1 = 4611686018427387906 := by
  obtain ⟨hp, ht, hc⟩ := all_th xs _ rfl h id hi
  have h0 : thC s id = 0 := thC_zero.2 ⟨hp, ht⟩
  have e : delS s id = upS s id.toNat Sl.zero := if_pos h0
  have hth : thB (upS s id.toNat Sl.zero) id = false := by rw [thB_at hp, upS_same]; rfl
  refine ⟨h0, ?_, ?_⟩
  · rw [e]
    exact broken (e := 3) (fun x a hx => next_up hp hx) (fun a => by rw [nextW_3 (by rw [hth]; decide)]) (by decide) xs _ rfl h hi
  · rw [e]
    exact srun_none xs 0 ⟨id, hi, hth⟩
theorem shut_law {s : St} {v id : Int} {xs : List Int} (h : (wrun s v xs).2.2 = 0) (hi : id ∈ xs) : turnC s id true = 0 ∧ (wrun (turnS s id true) v xs).2.2 = 5 ∧ srun (turnS s id true) xs = srun s xs := by
  obtain ⟨hp, ht, hc⟩ := all_th xs _ rfl h id hi
  have h0 : turnC s id true = 0 := turnC_zero.2 ⟨⟨hp, ht⟩, hc⟩
  have e : turnS s id true = upS s id.toNat (shut (s id.toNat) true) := if_pos h0
  have hth : thB (upS s id.toNat (shut (s id.toNat) true)) id = true := by rw [thB_at hp, upS_same]; exact ht
  refine ⟨h0, ?_, ?_⟩
  · rw [e]
    exact broken (e := 5) (fun x a hx => next_up hp hx) (fun a => by rw [nextW_5 hth (by rw [arcQ_at hp, upS_same]; rfl)]) (by decide) xs _ rfl h hi
  · rw [e]
    refine srun_same (fun x => ?_) xs
    by_cases hx : x = id
    · rw [hx, thB_at hp, thB_at hp, arcQ_at hp, arcQ_at hp, upS_same]; exact ⟨rfl, rfl⟩
    · exact ⟨(upS_q hp hx).2, by rw [(upS_q hp hx).1]⟩
end Gr
end Go.Proofs.Ytakmbbgnnbpkoaa
