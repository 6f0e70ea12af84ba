/- A heap, plainly: of each thing, whether it is in it and what it has come to; the first one. No program in sight. -/
import Derived.Test.YtliofdfhimmjmaaHeapLaw
namespace Go.Proofs.Ytliofdfhimmjmaa
set_option linter.unusedVariables false
set_option linter.unusedSectionVars false
namespace Hp
section
variable {α : Type} [Inhabited α] (R : α → α → Prop) [DecidableRel R]
def sg (s : List (Option α)) (i : Nat) : Option α := s.getD i none
def pg (s : List (Option α)) (i : Nat) : α := (sg s i).getD default
/-- The first one of those below i. -/
def bst (s : List (Option α)) : Nat → Option Nat
  | 0 => none
  | i + 1 => match sg s i with
    | none => bst s i
    | some p => match bst s i with
      | none => some i
      | some b => if R p (pg s b) then some i else some b
structure IsB (s : List (Option α)) (i b : Nat) : Prop where
  lt : b < i
  is : sg s b = some (pg s b)
  le : ∀ j, j < i → ∀ q, sg s j = some q → R (pg s b) q ∨ (pg s b = q ∧ b ≤ j)
variable {R}
theorem bst_none {s : List (Option α)} : ∀ {i}, bst R s i = none ↔ ∀ j, j < i → sg s j = none
  | 0 => ⟨fun _ j h => by omega, fun _ => rfl⟩
  | i + 1 => by
    unfold bst
    constructor
    · intro h
      split at h
      · rename_i e
        intro j hj
        by_cases e2 : j = i
        · exact e2 ▸ e
        · exact bst_none.1 h j (by omega)
      · split at h
        · cases h
        · split at h <;> cases h
    · intro h
      rw [h i (by omega)]
      exact bst_none.2 fun j hj => h j (by omega)
theorem bst_some (so : SO R) {s : List (Option α)} : ∀ {i b}, bst R s i = some b → IsB R s i b
  | 0, b, h => by cases h
  | i + 1, b, h => by
    unfold bst at h
    split at h
    · rename_i e
      have k := bst_some so h
      exact ⟨by have := k.lt; omega, k.is, fun j hj q hq => by
        by_cases e2 : j = i
        · subst e2; rw [e] at hq; cases hq
        · exact k.le j (by omega) q hq⟩
    · rename_i p e
      have ep : pg s i = p := by unfold pg; rw [e]; rfl
      split at h
      · rename_i e1
        cases h
        exact ⟨by omega, by rw [ep]; exact e, fun j hj q hq => by
          by_cases e2 : j = i
          · subst e2; rw [e] at hq; cases hq; exact .inr ⟨ep, Nat.le_refl _⟩
          · rw [bst_none.1 e1 j (by omega)] at hq; cases hq⟩
      · rename_i b' e1
        have k := bst_some so e1
        split at h
        · rename_i hR
          cases h
          exact ⟨by omega, by rw [ep]; exact e, fun j hj q hq => by
            by_cases e2 : j = i
            · subst e2; rw [e] at hq; cases hq; exact .inr ⟨ep, Nat.le_refl _⟩
            · rw [ep]
              rcases k.le j (by omega) q hq with h1 | ⟨h1, h2⟩
              · exact .inl (so.tr _ _ _ hR h1)
              · exact .inl (h1 ▸ hR)⟩
        · rename_i hR
          cases h
          exact ⟨by have := k.lt; omega, k.is, fun j hj q hq => by
            by_cases e2 : j = i
            · subst e2; rw [e] at hq; cases hq
              rcases so.tri (pg s b) p with h1 | h1 | h1
              · exact .inl h1
              · exact .inr ⟨h1, by have := k.lt; omega⟩
              · exact absurd h1 hR
            · exact k.le j (by omega) q hq⟩
theorem IsB.uniq (so : SO R) {s : List (Option α)} {i b b' : Nat} (h : IsB R s i b) (h' : IsB R s i b') : b = b' := by
  rcases h.le b' h'.lt _ h'.is with k | ⟨k, k1⟩ <;> rcases h'.le b h.lt _ h.is with k' | ⟨k', k1'⟩
  · exact absurd k' (so.asy k)
  · rw [k'] at k; exact absurd k (so.irr _)
  · rw [k] at k'; exact absurd k' (so.irr _)
  · omega
theorem bst_of (so : SO R) {s : List (Option α)} {i b : Nat} (h : IsB R s i b) : bst R s i = some b := by
  cases e : bst R s i with
  | none => have := h.is; rw [bst_none.1 e b h.lt] at this; cases this
  | some b' => rw [(bst_some so e).uniq so h]
variable (R)
def bs (s : List (Option α)) : Option Nat := bst R s s.length
/-- What looking at the first one answers. -/
def pkN (s : List (Option α)) : Nat := (bs R s).getD 0
def pkP (s : List (Option α)) : α := match bs R s with
  | none => default
  | some b => pg s b
def pkO (s : List (Option α)) : Bool := (bs R s).isSome
def popL (s : List (Option α)) : List (Option α) := match bs R s with
  | none => s
  | some b => s.set b none
def putC (s : List (Option α)) (x : Int) (p : α) : Int := if x < 0 ∨ (s.length : Int) ≤ x then 1 else match sg s x.toNat with
  | none => 0
  | some q => if R p q then 0 else 5
def putL (s : List (Option α)) (x : Int) (p : α) : List (Option α) := if putC R s x p = 0 then s.set x.toNat (some p) else s
def atS (s : List (Option α)) (x : Int) : Option α := if x < 0 ∨ (s.length : Int) ≤ x then none else sg s x.toNat
def lenS (s : List (Option α)) : Nat := (s.filter Option.isSome).length
variable {R}
theorem putL_len (s : List (Option α)) (x : Int) (p : α) : (putL R s x p).length = s.length := by unfold putL; split <;> simp
theorem popL_len (s : List (Option α)) : (popL R s).length = s.length := by unfold popL; split <;> simp
theorem sg_set (s : List (Option α)) (i j : Nat) (x : Option α) (h : i < s.length) : sg (s.set i x) j = if j = i then x else sg s j := gs s i j x h
theorem sg_lt {s : List (Option α)} {i : Nat} {p : α} (h : sg s i = some p) : i < s.length := by
  refine Decidable.byContradiction fun hn => ?_
  unfold sg at h
  rw [List.getD_eq_getElem?_getD, List.getElem?_eq_none (by omega)] at h
  cases h
/-- How many there are. -/
theorem lenS_eq {s : List (Option α)} {t : List Nat} (hn : t.Nodup) (h : ∀ x, x ∈ t ↔ (sg s x).isSome = true) : lenS s = t.length := by
  have key : ∀ s : List (Option α), lenS s = ((List.range s.length).filter fun x => (sg s x).isSome).length := by
    intro s
    induction s with
    | nil => rfl
    | cons a s ih =>
      unfold lenS at ih ⊢
      rw [List.length_cons, List.range_succ_eq_map, List.filter_cons, List.filter_cons]
      have e0 : sg (a :: s) 0 = a := rfl
      rw [e0, List.filter_map, ]
      have e1 : ((fun x => (sg (a :: s) x).isSome) ∘ Nat.succ) = fun x => (sg s x).isSome := rfl
      rw [e1]
      split
      · rw [List.length_cons, List.length_cons, List.length_map, ih]
      · rw [List.length_map, ih]
  rw [key]
  have hr : ((List.range s.length).filter fun x => (sg s x).isSome).Nodup := List.Pairwise.filter _ List.nodup_range
  have i1 : ((List.range s.length).filter fun x => (sg s x).isSome) ⊆ t := fun x hx => (h x).2 (List.mem_filter.1 hx).2
  have i2 : t ⊆ ((List.range s.length).filter fun x => (sg s x).isSome) := fun x hx => by
    have := (h x).1 hx
    obtain ⟨p, hp⟩ := Option.isSome_iff_exists.1 this
    exact List.mem_filter.2 ⟨List.mem_range.2 (sg_lt hp), this⟩
  exact Nat.le_antisymm (List.Nodup.length_le_of_subset hr i1) (List.Nodup.length_le_of_subset hn i2)
theorem lenS_cons (a : Option α) (s : List (Option α)) : lenS (a :: s) = (if a.isSome = true then 1 else 0) + lenS s := by
  unfold lenS
  rw [List.filter_cons]
  split
  · rw [List.length_cons]; omega
  · omega
theorem lenS_out : ∀ (s : List (Option α)) (b : Nat) (p : α), sg s b = some p → lenS (s.set b none) + 1 = lenS s
  | [], b, p, h => by simp [sg] at h
  | a :: s, 0, p, h => by
    obtain rfl : a = some p := h
    rw [List.set_cons_zero, lenS_cons, lenS_cons]
    simp; omega
  | a :: s, b + 1, p, h => by
    have := lenS_out s b p h
    rw [List.set_cons_succ, lenS_cons, lenS_cons]; omega
theorem pkO_true {s : List (Option α)} (h : pkO R s = true) : ∃ b, bs R s = some b ∧ pkN R s = b ∧ pkP R s = pg s b ∧ popL R s = s.set b none := by
  obtain ⟨b, e⟩ := Option.isSome_iff_exists.1 h
  exact ⟨b, e, by unfold pkN; rw [e]; rfl, by unfold pkP; rw [e], by unfold popL; rw [e]⟩
theorem pkO_false {s : List (Option α)} (h : pkO R s = false) : bs R s = none ∧ pkN R s = 0 ∧ pkP R s = default ∧ popL R s = s := by
  have e : bs R s = none := by
    cases e : bs R s with
    | none => rfl
    | some b => unfold pkO at h; rw [e] at h; cases h
  exact ⟨e, by unfold pkN; rw [e]; rfl, by unfold pkP; rw [e], by unfold popL; rw [e]⟩
theorem lenS_pop (so : SO R) {s : List (Option α)} (h : pkO R s = true) : lenS (popL R s) + 1 = lenS s := by
  obtain ⟨b, e, -, -, e2⟩ := pkO_true h
  rw [e2]; exact lenS_out s b _ (bst_some so e).is
theorem lenS_zero (so : SO R) {s : List (Option α)} : pkO R s = false ↔ lenS s = 0 := by
  constructor
  · intro h
    have h0 := bst_none.1 (pkO_false h).1
    unfold lenS
    rw [List.length_eq_zero_iff, List.filter_eq_nil_iff]
    intro a ha
    obtain ⟨i, hi, rfl⟩ := List.getElem_of_mem ha
    have := h0 i hi
    unfold sg at this
    rw [List.getD_eq_getElem?_getD, List.getElem?_eq_getElem hi] at this
    rw [show s[i] = none from this]; exact Bool.false_ne_true
  · intro h
    refine Bool.eq_false_iff.2 fun k => ?_
    have := lenS_pop so k
    omega
/-- A row of things holds what is said. -/
structure HR (R : α → α → Prop) (s : List (Option α)) (t : List Nat) (pl : List Int) (pr : List α) : Prop where
  pi : PI s.length t pl
  hi : HI (key R fun x => pr.getD x default) t
  lp : pr.length = s.length
  get : ∀ x, x < s.length → sg s x = if x ∈ t then some (pr.getD x default) else none
  n64 : s.length ≤ 64
theorem PI.nodup {n : Nat} {t : List Nat} {pl : List Int} (h : PI n t pl) : t.Nodup := by
  rw [List.nodup_iff_pairwise_ne, List.pairwise_iff_getElem]
  intro i j hi hj hij e
  have := h.inj hi hj (by rw [gl t i hi, gl t j hj, e])
  omega
section
variable {s : List (Option α)} {t : List Nat} {pl : List Int} {pr : List α}
theorem HR.mem (h : HR R s t pl pr) (x : Nat) : x ∈ t ↔ (sg s x).isSome = true := by
  constructor
  · intro hm
    rw [h.get x (h.pi.lt_of_mem hm), if_pos hm]; rfl
  · intro hs
    obtain ⟨p, hp⟩ := Option.isSome_iff_exists.1 hs
    refine Decidable.byContradiction fun hn => ?_
    rw [h.get x (sg_lt hp), if_neg hn] at hp; cases hp
theorem HR.len (h : HR R s t pl pr) : lenS s = t.length := lenS_eq h.pi.nodup h.mem
theorem HR.empty (h : HR R s [] pl pr) : bs R s = none := bst_none.2 fun j hj => by rw [h.get j hj, if_neg (by simp)]
theorem HR.pg (h : HR R s t pl pr) {x : Nat} (hx : x ∈ t) : pg s x = pr.getD x default := by
  unfold Hp.pg; rw [h.get x (h.pi.lt_of_mem hx), if_pos hx]; rfl
theorem HR.first (so : SO R) (h : HR R s t pl pr) (h0 : 0 < t.length) : bs R s = some (t.getD 0 default) := by
  have hm := gm t 0 h0
  refine bst_of so ⟨h.pi.lt 0 h0, by rw [h.pg hm, h.get _ (h.pi.lt 0 h0), if_pos hm], fun j hj q hq => ?_⟩
  rw [h.get j hj] at hq
  split at hq
  · rename_i hjt
    cases hq
    obtain ⟨i, hi, e⟩ := mg hjt
    have := HI.min (so_key so fun x => pr.getD x default) h.hi i hi
    rw [e] at this
    rw [h.pg hm]
    rcases (so_key so fun x => pr.getD x default).tri (t.getD 0 default) j with k | k | k
    · rcases k with k | ⟨k1, k2⟩
      · exact .inl k
      · exact .inr ⟨k1, by omega⟩
    · exact .inr ⟨by rw [k], by omega⟩
    · exact absurd k this
  · cases hq
theorem HR.new (n : Nat) (hn : n ≤ 64) (z : α) : HR R (List.replicate n none) [] (List.replicate n (-1)) (List.replicate n z) := by
  refine ⟨⟨by simp, fun i hi => by simp at hi, fun i hi => by simp at hi, fun x hx _ => ?_⟩, fun i _ hi => by simp at hi, by simp, fun x hx => ?_, by simpa using hn⟩
  · simp only [List.length_replicate] at hx
    simp [List.getD_eq_getElem?_getD, hx]
  · simp only [List.length_replicate] at hx
    simp [sg, List.getD_eq_getElem?_getD, hx]
/-- Once one has come to less, it goes up. -/
theorem HR.up (so : SO R) (h : HR R s t pl pr) {x i : Nat} {p : α} (hi : i < t.length) (hx : t.getD i default = x) (hp : R p (pr.getD x default)) : UI (key R fun y => (pr.set x p).getD y default) t i := by
  have hxn : x < pr.length := by rw [h.lp, ← hx]; exact h.pi.lt i hi
  have e : ∀ y, (pr.set x p).getD y default = if y = x then p else pr.getD y default := fun y => gs pr x y p hxn
  have so' := so_key so fun y => pr.getD y default
  have dec : key R (fun y => (pr.set x p).getD y default) = key R fun y => if y = x then p else pr.getD y default := by funext a b; unfold key; simp only [e]
  rw [dec]
  have old := h.hi
  have inj : ∀ {j}, j < t.length → t.getD j default = x → j = i := fun hj e => h.pi.inj hj hi (e.trans hx.symm)
  constructor
  · intro j h0 h1 hji hk
    have hjx : t.getD j default ≠ x := fun e => hji (inj h1 e)
    refine old j h0 h1 ?_
    unfold key at hk ⊢
    dsimp only at hk ⊢
    rw [if_neg hjx] at hk
    by_cases e1 : t.getD ((j - 1) / 2) default = x
    · rw [if_pos e1] at hk
      rw [e1] at hk ⊢
      rcases hk with hk | ⟨hk, _⟩
      · exact .inl (so.tr _ _ _ hk hp)
      · exact .inl (hk ▸ hp)
    · rw [if_neg e1] at hk; exact hk
  · intro h0 j hj0 hj1 hjp hk
    have e2 : t.getD j default ≠ x := fun e => by have := inj hj1 e; omega
    have e3 : t.getD ((i - 1) / 2) default ≠ x := fun e => by have := inj (by omega) e; omega
    have k1 := old j hj0 hj1
    have k2 := old i h0 hi
    rw [hjp] at k1
    refine so'.le_tr k2 k1 ?_
    unfold key at hk ⊢
    dsimp only at hk ⊢
    rwa [if_neg e2, if_neg e3] at hk
/-- One that is new goes up from the end. -/
theorem HR.upNew (h : HR R s t pl pr) {x : Nat} {p : α} (hxn : x < s.length) (hx : x ∉ t) : UI (key R fun y => (pr.set x p).getD y default) (t ++ [x]) t.length ∧ PI s.length (t ++ [x]) (pl.set x (t.length : Int)) := by
  have hl : x < pr.length := by rw [h.lp]; exact hxn
  have e : ∀ y, (pr.set x p).getD y default = if y = x then p else pr.getD y default := fun y => gs pr x y p hl
  have a1 : ∀ i, i < t.length → (t ++ [x]).getD i default = t.getD i default := fun i hi => by simp [List.getD_eq_getElem?_getD, List.getElem?_append_left hi]
  have a2 : (t ++ [x]).getD t.length default = x := by simp [List.getD_eq_getElem?_getD]
  have nx : ∀ i, i < t.length → t.getD i default ≠ x := fun i hi e => hx (e ▸ gm t i hi)
  have hlen : (t ++ [x]).length = t.length + 1 := by simp
  refine ⟨⟨fun i h0 h1 hne hk => ?_, fun h0 i hi0 hi1 hip => ?_⟩, ⟨by simp [h.pi.len], fun i hi => ?_, fun i hi => ?_, fun y hy hny => ?_⟩⟩
  · rw [hlen] at h1
    have hi : i < t.length := by omega
    rw [a1 i hi, a1 _ (by omega)] at hk
    refine h.hi i h0 hi ?_
    unfold key at hk ⊢
    dsimp only at hk ⊢
    rwa [e, e, if_neg (nx i hi), if_neg (nx _ (by omega))] at hk
  · rw [hlen] at hi1; omega
  · rw [hlen] at hi
    by_cases e1 : i = t.length
    · subst e1; rw [a2]; exact hxn
    · rw [a1 i (by omega)]; exact h.pi.lt i (by omega)
  · rw [hlen] at hi
    by_cases e1 : i = t.length
    · subst e1; rw [a2, gs _ _ _ _ (by rw [h.pi.len]; exact hxn), if_pos rfl]
    · rw [a1 i (by omega), gs _ _ _ _ (by rw [h.pi.len]; exact hxn), if_neg (nx i (by omega))]; exact h.pi.at_ i (by omega)
  · have hyx : y ≠ x := fun e => hny (by simp [e])
    rw [gs _ _ _ _ (by rw [h.pi.len]; exact hxn), if_neg hyx]
    exact h.pi.no y hy fun hm => hny (by simp [hm])
/-- Behind going up. -/
theorem HR.put (h : HR R s t pl pr) {x : Nat} {p : α} (hxn : x < s.length) {t' : List Nat} {pl' : List Int} (hp : PI s.length t' pl') (hh : HI (key R fun y => (pr.set x p).getD y default) t') (hm : ∀ y, y ∈ t' ↔ y = x ∨ y ∈ t) : HR R (s.set x (some p)) t' pl' (pr.set x p) := by
  have hl : x < pr.length := by rw [h.lp]; exact hxn
  refine ⟨by rw [List.length_set]; exact hp, hh, by simp [h.lp], fun y hy => ?_, by rw [List.length_set]; exact h.n64⟩
  rw [List.length_set] at hy
  rw [sg_set _ _ _ _ hxn, gs pr x y p hl]
  by_cases e : y = x
  · rw [if_pos e, if_pos ((hm y).2 (.inl e)), if_pos e]
  · rw [if_neg e, if_neg e, h.get y hy]
    by_cases e2 : y ∈ t
    · rw [if_pos e2, if_pos ((hm y).2 (.inr e2))]
    · rw [if_neg e2, if_neg (fun k => ((hm y).1 k).elim e e2)]
/-- The last one laid where the first one was; that one gone. -/
theorem HR.cut (so : SO R) (h : HR R s t pl pr) (h0 : 0 < t.length) {y : Nat} (hy : y = t.getD (t.length - 1) default) : 
    PI s.length ((t.set 0 y).take (t.length - 1)) ((pl.set y 0).set (t.getD 0 default) (-1)) ∧ DI (key R fun x => pr.getD x default) ((t.set 0 y).take (t.length - 1)) 0 ∧ (∀ z, z ∈ (t.set 0 y).take (t.length - 1) ↔ z ∈ t ∧ z ≠ t.getD 0 default) := by
  have ly : y < pl.length := by rw [hy, h.pi.len]; exact h.pi.lt _ (by omega)
  have lx : t.getD 0 default < pl.length := by rw [h.pi.len]; exact h.pi.lt _ h0
  have hlen : ((t.set 0 y).take (t.length - 1)).length = t.length - 1 := by simp; 
  have g : ∀ i, i < t.length - 1 → ((t.set 0 y).take (t.length - 1)).getD i default = if i = 0 then y else t.getD i default := fun i hi => by
    rw [List.getD_eq_getElem?_getD, List.getElem?_take_of_lt hi, ← List.getD_eq_getElem?_getD, gs _ _ _ _ h0]
  have ni : ∀ i, i < t.length → 0 < i → t.getD i default ≠ t.getD 0 default := fun i hi hi0 e => by have := h.pi.inj hi h0 e; omega
  have mem : ∀ z, z ∈ (t.set 0 y).take (t.length - 1) ↔ z ∈ t ∧ z ≠ t.getD 0 default := by
    intro z
    constructor
    · intro hz
      obtain ⟨i, hi, e⟩ := mg hz
      rw [hlen] at hi
      rw [g i hi] at e
      split at e
      · rw [← e, hy]; exact ⟨gm t _ (by omega), ni _ (by omega) (by omega)⟩
      · rw [← e]; exact ⟨gm t _ (by omega), ni _ (by omega) (by omega)⟩
    · rintro ⟨hz, hne⟩
      obtain ⟨i, hi, e⟩ := mg hz
      have hi0 : i ≠ 0 := fun e0 => hne (by rw [← e, e0])
      by_cases e1 : i = t.length - 1
      · have := gm ((t.set 0 y).take (t.length - 1)) 0 (by omega)
        have hyz : y = z := by rw [hy, ← e1, e]
        rw [g 0 (by omega), if_pos rfl] at this
        rw [← hyz]; exact this
      · have := gm ((t.set 0 y).take (t.length - 1)) i (by omega)
        rw [g i (by omega), if_neg hi0, e] at this; exact this
  refine ⟨⟨by simp [h.pi.len], fun i hi => ?_, fun i hi => ?_, fun z hz hnz => ?_⟩, ⟨fun i hi0 hi1 hne => ?_, fun hh => absurd hh (by omega)⟩, mem⟩
  · rw [hlen] at hi
    rw [g i hi]; split
    · rw [hy]; exact h.pi.lt _ (by omega)
    · exact h.pi.lt _ (by omega)
  · rw [hlen] at hi
    rw [g i hi, gs _ _ _ _ (by rw [List.length_set]; exact lx), gs _ _ _ _ ly]
    by_cases e : i = 0
    · rw [if_pos e, if_neg (by rw [hy]; exact ni _ (by omega) (by omega)), if_pos rfl, e]; rfl
    · rw [if_neg e, if_neg (ni _ (by omega) (by omega)), if_neg (fun e2 => by rw [hy] at e2; have := h.pi.inj (by omega) (by omega) e2; omega)]
      exact h.pi.at_ i (by omega)
  · rw [gs _ _ _ _ (by rw [List.length_set]; exact lx), gs _ _ _ _ ly]
    by_cases e : z = t.getD 0 default
    · rw [if_pos e]
    · rw [if_neg e]
      have hzt : z ∉ t := fun k => hnz ((mem z).2 ⟨k, e⟩)
      rw [if_neg (fun e2 => hzt (by rw [e2, hy]; exact gm t _ (by omega)))]
      exact h.pi.no z hz hzt
  · rw [hlen] at hi1
    rw [g i hi1, g _ (by omega), if_neg (by omega), if_neg hne]
    exact h.hi i hi0 (by omega)
/-- Behind going down. -/
theorem HR.pop (so : SO R) (h : HR R s t pl pr) (h0 : 0 < t.length) {t' : List Nat} {pl' : List Int} (hp : PI s.length t' pl') (hh : HI (key R fun x => pr.getD x default) t') (hm : ∀ z, z ∈ t' ↔ z ∈ t ∧ z ≠ t.getD 0 default) : HR R (popL R s) t' pl' pr := by
  have e : popL R s = s.set (t.getD 0 default) none := by unfold popL; rw [h.first so h0]
  rw [e]
  have hx := h.pi.lt 0 h0
  refine ⟨by rw [List.length_set]; exact hp, hh, by simp [h.lp], fun y hy => ?_, by rw [List.length_set]; exact h.n64⟩
  rw [List.length_set] at hy
  rw [sg_set _ _ _ _ hx]
  by_cases e : y = t.getD 0 default
  · rw [if_pos e, if_neg fun k => ((hm y).1 k).2 e]
  · rw [if_neg e, h.get y hy]
    by_cases e2 : y ∈ t
    · rw [if_pos e2, if_pos ((hm y).2 ⟨e2, e⟩)]
    · rw [if_neg e2, if_neg fun k => e2 ((hm y).1 k).1]
end
end
end Hp
end Go.Proofs.Ytliofdfhimmjmaa
