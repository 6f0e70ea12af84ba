/- Several texts as one: HeapLaw HeapBest Heap Heap2 Heap3 Heap4 Heap5 Heap6. -/
import Derived.Test.YtliofdfhimmjmaaRrBase
import Derived.Test.YtliofdfhimmjmaaFacts
import Derived.Test.YtliofdfhimmjmaaRrBits
import Derived.Test.YtliofdfhimmjmaaRrStr
import Derived.Test.YtliofdfhimmjmaaClone
/- Heaps, plainly: what going up and going down makes of a row of things; the first one is the least. No program in sight. -/
namespace Go.Proofs.Ytliofdfhimmjmaa
set_option linter.unusedVariables false
namespace Hp
/-- A strict order, total. -/
structure SO {α : Type} (lt : α → α → Prop) : Prop where
  irr : ∀ a,¬ lt a a
  tr : ∀ a b c,lt a b → lt b c → lt a c
  tri : ∀ a b,lt a b ∨ a = b ∨ lt b a
section
variable {α : Type} {R : α → α → Prop}
theorem SO.asy (h : SO R) {a b : α} (h1 : R a b) : ¬ R b a:=fun h2=>h.irr _ (h.tr _ _ _ h1 h2)
theorem SO.le_tr (h : SO R) {a b c : α} (h1 : ¬ R b a) (h2 : ¬ R c b) : ¬ R c a:=fun h3=>by
  rcases h.tri a b with k|rfl|k
  · rcases h.tri b c with k2|rfl|k2
    · exact h.irr _ (h.tr _ _ _ (h.tr _ _ _ h3 k) k2)
    · exact h1 h3
    · exact h2 k2
  · exact h2 h3
  · exact h1 k
theorem SO.lt_le (h : SO R) {a b c : α} (h1 : R a b) (h2 : ¬ R c b) : ¬ R c a:=h.le_tr (h.asy h1) h2
/-- Things by what they have come to; of like ones the least. -/
def key (R : α → α → Prop) (pr : Nat → α) (a b : Nat) : Prop:=R (pr a) (pr b) ∨ (pr a = pr b ∧ a < b)
theorem so_key (h : SO R) (pr : Nat → α) : SO (key R pr) where
  irr:=fun a k=>by
    rcases k with k|k
    · exact h.irr _ k
    · omega
  tr:=fun a b c k1 k2=>by
    rcases k1 with k1|⟨e1,k1⟩ <;> rcases k2 with k2|⟨e2,k2⟩
    · exact .inl (h.tr _ _ _ k1 k2)
    · exact .inl (e2 ▸ k1)
    · exact .inl (by rw [e1]; exact k2)
    · exact .inr ⟨e1.trans e2,by omega⟩
  tri := fun a b=>by
    rcases h.tri (pr a) (pr b) with k|k|k
    · exact .inl (.inl k)
    · rcases Nat.lt_trichotomy a b with q|q|q
      · exact .inl (.inr ⟨k,q⟩)
      · exact .inr (.inl q)
      · exact .inr (.inr (.inr ⟨k.symm,q⟩))
    · exact .inr (.inr (.inl k))
end
theorem gs {α : Type} [Inhabited α] (l : List α) (i j : Nat) (x : α) (h : i < l.length) : (l.set i x).getD j default = if j = i then x else l.getD j default:=by
  simp only [List.getD_eq_getElem?_getD,List.getElem?_set]
  by_cases e : i = j
  · subst e; simp [h]
  · simp [e,Ne.symm e]
theorem gl {α : Type} [Inhabited α] (l : List α) (i : Nat) (h : i < l.length) : l.getD i default = l[i]:=by simp [List.getD_eq_getElem?_getD,h]
theorem gm {α : Type} [Inhabited α] (l : List α) (i : Nat) (h : i < l.length) : l.getD i default ∈ l:=by rw [gl l i h]; exact List.getElem_mem _
theorem mg {α : Type} [Inhabited α] {l : List α} {x : α} (h : x ∈ l) : ∃ i,i < l.length ∧ l.getD i default = x:=by
  obtain ⟨i,hi,e⟩:=List.getElem_of_mem h
  exact ⟨i,hi,by rw [gl l i hi,e]⟩
theorem ext {α : Type} [Inhabited α] (l l' : List α) (h : l.length = l'.length) (hh : ∀ i,i < l.length → l.getD i default = l'.getD i default) : l = l':=by
  apply List.ext_getElem h
  intro i h1 h2
  have:=hh i h1
  rwa [gl l i h1,gl l' i h2] at this
/-- Each thing stands where its place says; the others nowhere. -/
structure PI (n : Nat) (t : List Nat) (pl : List Int) : Prop where
  len : pl.length = n
  lt : ∀ i,i < t.length → t.getD i default < n
  at_ : ∀ i,i < t.length → pl.getD (t.getD i default) default = (i : Int)
  no : ∀ x,x < n → x ∉ t → pl.getD x default = -1
section
variable {n : Nat} {t : List Nat} {pl : List Int}
theorem PI.inj (h : PI n t pl) {i j : Nat} (hi : i < t.length) (hj : j < t.length) (e : t.getD i default = t.getD j default) : i = j:=by
  have h1:=h.at_ i hi
  have h2:=h.at_ j hj
  rw [e,h2] at h1; omega
theorem PI.mem_iff (h : PI n t pl) {x : Nat} (hx : x < n) : x ∈ t ↔ ¬ pl.getD x default < 0:=by
  constructor
  · intro hm
    obtain ⟨i,hi,e⟩:=mg hm
    have:=h.at_ i hi
    rw [e] at this; omega
  · intro hp
    refine Decidable.byContradiction fun hn=>hp ?_
    rw [h.no x hx hn]; decide
theorem PI.lt_of_mem (h : PI n t pl) {x : Nat} (hm : x ∈ t) : x < n:=by
  obtain ⟨i,hi,e⟩:=mg hm
  exact e ▸ h.lt i hi
theorem PI.len_le (h : PI n t pl) : t.length ≤ n:=by
  have hn : t.Nodup:=by
    rw [List.nodup_iff_pairwise_ne,List.pairwise_iff_getElem]
    intro i j hi hj hij e
    have:=h.inj hi hj (by rw [gl t i hi,gl t j hj,e])
    omega
  have:=List.Nodup.length_le_of_subset hn (l₂:=List.range n) (fun x hx=>List.mem_range.2 (h.lt_of_mem hx))
  rwa [List.length_range] at this
/-- Two places changed with each other. -/
def swap (t : List Nat) (i j : Nat) : List Nat:=(t.set i (t.getD j default)).set j (t.getD i default)
theorem swap_len (i j : Nat) : (swap t i j).length = t.length:=by simp [swap]
theorem swap_get {i j : Nat} (hi : i < t.length) (hj : j < t.length) (k : Nat) : (swap t i j).getD k default = if k = j then t.getD i default else if k = i then t.getD j default else t.getD k default:=by
  unfold swap
  rw [gs _ _ _ _ (by rw [List.length_set]; exact hj),gs _ _ _ _ hi]
theorem swap_mem {i j : Nat} (hi : i < t.length) (hj : j < t.length) (x : Nat) : x ∈ swap t i j ↔ x ∈ t:=by
  constructor
  · intro h
    obtain ⟨k,hk,e⟩:=mg h
    rw [swap_len] at hk
    rw [swap_get hi hj] at e
    split at e
    · exact e ▸ gm t i hi
    · split at e
      · exact e ▸ gm t j hj
      · exact e ▸ gm t k hk
  · intro h
    obtain ⟨k,hk,e⟩:=mg h
    have hs:=swap_len (t:=t) i j
    by_cases e1 : k = i
    · subst e1
      have:=gm (swap t k j) j (by omega)
      rw [swap_get hi hj,if_pos rfl,e] at this; exact this
    · by_cases e2 : k = j
      · subst e2
        have:=gm (swap t i k) i (by omega)
        rw [swap_get hi hj,if_neg (Ne.symm e1),if_pos rfl,e] at this; exact this
      · have:=gm (swap t i j) k (by omega)
        rw [swap_get hi hj,if_neg e2,if_neg e1,e] at this; exact this
theorem PI.swap (h : PI n t pl) {i j : Nat} (hi : i < t.length) (hj : j < t.length) (hij : i ≠ j) : PI n (swap t i j) ((pl.set (t.getD j default) i).set (t.getD i default) j):=by
  have li:=h.lt i hi
  have lj:=h.lt j hj
  have hne : t.getD i default ≠ t.getD j default:=fun e=>hij (h.inj hi hj e)
  refine ⟨by simp [h.len],fun k hk=>?_,fun k hk=>?_,fun x hx hn=>?_⟩
  · rw [swap_len] at hk
    rw [swap_get hi hj]; split
    · exact li
    · split
      · exact lj
      · exact h.lt k hk
  · rw [swap_len] at hk
    rw [gs _ _ _ _ (by rw [List.length_set,h.len]; exact li),gs _ _ _ _ (by rw [h.len]; exact lj),swap_get hi hj]
    by_cases e1 : k = j
    · subst e1; rw [if_pos rfl,if_pos rfl]
    · rw [if_neg e1]
      by_cases e2 : k = i
      · subst e2; rw [if_pos rfl,if_neg (Ne.symm hne),if_pos rfl]
      · rw [if_neg e2,if_neg (fun e=>e2 (h.inj hk hi e)),if_neg (fun e=>e1 (h.inj hk hj e))]
        exact h.at_ k hk
  · rw [swap_mem hi hj] at hn
    rw [gs _ _ _ _ (by rw [List.length_set,h.len]; exact li),gs _ _ _ _ (by rw [h.len]; exact lj),if_neg (show ¬ x = t.getD i default from fun e=>hn (e ▸ gm t i hi)),if_neg (show ¬ x = t.getD j default from fun e=>hn (e ▸ gm t j hj))]
    exact h.no x hx hn
end
section
variable {lt : Nat → Nat → Prop} {t : List Nat}
/-- None comes ahead of the one above it. -/
def HI (lt : Nat → Nat → Prop) (t : List Nat) : Prop:=∀ i,0 < i → i < t.length → ¬ lt (t.getD i default) (t.getD ((i - 1) / 2) default)
def UI (lt : Nat → Nat → Prop) (t : List Nat) (p : Nat) : Prop:=(∀ i,0 < i → i < t.length → i ≠ p → ¬ lt (t.getD i default) (t.getD ((i - 1) / 2) default)) ∧
  (0 < p → ∀ i,0 < i → i < t.length → (i - 1) / 2 = p → ¬ lt (t.getD i default) (t.getD ((p - 1) / 2) default))
theorem UI.done {p : Nat} (h : UI lt t p) (hp : 0 < p → ¬ lt (t.getD p default) (t.getD ((p - 1) / 2) default)) : HI lt t:=fun i h0 h1=>by
  by_cases e : i = p
  · subst e; exact hp h0
  · exact h.1 i h0 h1 e
theorem UI.step (so : SO lt) {p : Nat} (h : UI lt t p) (h0 : 0 < p) (hp : p < t.length) (hl : lt (t.getD p default) (t.getD ((p - 1) / 2) default)) : UI lt (swap t p ((p - 1) / 2)) ((p - 1) / 2):=by
  obtain ⟨q,hq⟩ : ∃ q,q = (p - 1) / 2:=⟨_,rfl⟩
  rw [← hq] at hl ⊢
  have hqt : q < t.length:=by omega
  have g:=fun k=>swap_get (t:=t) hp hqt k
  constructor
  · intro i hi0 hi1 hiq
    rw [swap_len] at hi1
    rw [g,g,if_neg hiq]
    by_cases e1 : i = p
    · subst e1; rw [if_pos rfl,← hq,if_pos rfl]; exact so.asy hl
    · rw [if_neg e1]
      by_cases e2 : (i - 1) / 2 = q
      · rw [if_pos e2]
        have:=h.1 i hi0 hi1 e1
        rw [e2] at this
        exact so.lt_le hl this
      · rw [if_neg e2]
        by_cases e3 : (i - 1) / 2 = p
        · rw [if_pos e3,hq]; exact h.2 h0 i hi0 hi1 e3
        · rw [if_neg e3]; exact h.1 i hi0 hi1 e1
  · intro hq0 i hi0 hi1 hiq
    rw [swap_len] at hi1
    have h2:=h.1 q hq0 hqt (by omega)
    rw [g,g,if_neg (by omega),if_neg (show ¬ (q - 1) / 2 = q by omega),if_neg (show ¬ (q - 1) / 2 = p by omega)]
    by_cases e1 : i = p
    · subst e1; rw [if_pos rfl]; exact h2
    · rw [if_neg e1]
      have:=h.1 i hi0 hi1 e1
      rw [hiq] at this
      exact so.le_tr h2 this
def DI (lt : Nat → Nat → Prop) (t : List Nat) (p : Nat) : Prop:=(∀ i,0 < i → i < t.length → (i - 1) / 2 ≠ p → ¬ lt (t.getD i default) (t.getD ((i - 1) / 2) default)) ∧
  (0 < p → ∀ i,0 < i → i < t.length → (i - 1) / 2 = p → ¬ lt (t.getD i default) (t.getD ((p - 1) / 2) default))
theorem DI.done {p : Nat} (h : DI lt t p) (hp : ∀ i,0 < i → i < t.length → (i - 1) / 2 = p → ¬ lt (t.getD i default) (t.getD p default)) : HI lt t:=fun i h0 h1=>by
  by_cases e : (i - 1) / 2 = p
  · rw [e]; exact hp i h0 h1 e
  · exact h.1 i h0 h1 e
theorem DI.step (so : SO lt) {p c : Nat} (h : DI lt t p) (hc0 : 0 < c) (hc : c < t.length) (hcp : (c - 1) / 2 = p) (hl : lt (t.getD c default) (t.getD p default))
    (hmin : ∀ i,0 < i → i < t.length → (i - 1) / 2 = p → ¬ lt (t.getD i default) (t.getD c default)) : DI lt (swap t p c) c:=by
  have hpt : p < t.length:=by omega
  have hpc : p ≠ c:=by omega
  have g:=fun k=>swap_get (t:=t) hpt hc k
  constructor
  · intro i hi0 hi1 hic
    rw [swap_len] at hi1
    rw [g,g]
    by_cases e1 : i = c
    · subst e1
      rw [if_pos rfl,hcp,if_neg hpc,if_pos rfl]; exact so.asy hl
    · rw [if_neg e1,if_neg hic]
      by_cases e2 : i = p
      · subst e2
        rw [if_pos rfl,if_neg (by omega)]
        exact h.2 hi0 c hc0 hc hcp
      · rw [if_neg e2]
        by_cases e3 : (i - 1) / 2 = p
        · rw [if_pos e3]; exact hmin i hi0 hi1 e3
        · rw [if_neg e3]; exact h.1 i hi0 hi1 e3
  · intro _ i hi0 hi1 hic
    rw [swap_len] at hi1
    rw [g,g,hcp,if_neg hpc,if_pos rfl,if_neg (by omega),if_neg (by omega)]
    have:=h.1 i hi0 hi1 (by omega)
    rwa [hic] at this
theorem HI.min (so : SO lt) (h : HI lt t) : ∀ i,i < t.length → ¬ lt (t.getD i default) (t.getD 0 default)
  | 0,_=>so.irr _
  | i + 1,hi=>so.le_tr (HI.min so h ((i + 1 - 1) / 2) (by omega)) (h (i + 1) (by omega) hi)
  termination_by i=>i
  decreasing_by omega
end
end Hp
end Go.Proofs.Ytliofdfhimmjmaa
/- A heap, plainly: of each thing, whether it is in it and what it has come to; the first one. No program in sight. -/
namespace Go.Proofs.Ytliofdfhimmjmaa
set_option linter.unusedVariables false
set_option linter.unusedSectionVars false
namespace Hp
section
variable {α : Type} [Inhabited α] (R : α → α → Prop) [DecidableRel R]
def sg (s : List (Option α)) (i : Nat) : Option α:=s.getD i none
def pg (s : List (Option α)) (i : Nat) : α:=(sg s i).getD default
/-- The first one of those below i. -/
def bst (s : List (Option α)) : Nat → Option Nat
  | 0=>none
  | i + 1=>match sg s i with
    | none=>bst s i
    | some p=>match bst s i with
      | none=>some i
      | some b=>if R p (pg s b) then some i else some b
structure IsB (s : List (Option α)) (i b : Nat) : Prop where
  lt : b < i
  is : sg s b = some (pg s b)
  le : ∀ j,j < i → ∀ q,sg s j = some q → R (pg s b) q ∨ (pg s b = q ∧ b ≤ j)
variable {R}
theorem bst_none {s : List (Option α)} : ∀ {i},bst R s i = none ↔ ∀ j,j < i → sg s j = none
  | 0=>⟨fun _ j h=>by omega,fun _=>rfl⟩
  | i + 1=>by
    unfold bst
    constructor
    · intro h
      split at h
      · rename_i e
        intro j hj
        by_cases e2 : j = i
        · exact e2 ▸ e
        · exact bst_none.1 h j (by omega)
      · split at h
        · cases h
        · split at h <;> cases h
    · intro h
      rw [h i (by omega)]
      exact bst_none.2 fun j hj=>h j (by omega)
theorem bst_some (so : SO R) {s : List (Option α)} : ∀ {i b},bst R s i = some b → IsB R s i b
  | 0,b,h=>by cases h
  | i + 1, b, h=>by
    unfold bst at h
    split at h
    · rename_i e
      have k:=bst_some so h
      exact ⟨by have:=k.lt; omega,k.is,fun j hj q hq=>by
        by_cases e2 : j = i
        · subst e2; rw [e] at hq; cases hq
        · exact k.le j (by omega) q hq⟩
    · rename_i p e
      have ep : pg s i = p:=by unfold pg; rw [e]; rfl
      split at h
      · rename_i e1
        cases h
        exact ⟨by omega,by rw [ep]; exact e,fun j hj q hq=>by
          by_cases e2 : j = i
          · subst e2; rw [e] at hq; cases hq; exact .inr ⟨ep,Nat.le_refl _⟩
          · rw [bst_none.1 e1 j (by omega)] at hq; cases hq⟩
      · rename_i b' e1
        have k:=bst_some so e1
        split at h
        · rename_i hR
          cases h
          exact ⟨by omega,by rw [ep]; exact e,fun j hj q hq=>by
            by_cases e2 : j = i
            · subst e2; rw [e] at hq; cases hq; exact .inr ⟨ep,Nat.le_refl _⟩
            · rw [ep]
              rcases k.le j (by omega) q hq with h1|⟨h1,h2⟩
              · exact .inl (so.tr _ _ _ hR h1)
              · exact .inl (h1 ▸ hR)⟩
        · rename_i hR
          cases h
          exact ⟨by have:=k.lt; omega,k.is,fun j hj q hq=>by
            by_cases e2 : j = i
            · subst e2; rw [e] at hq; cases hq
              rcases so.tri (pg s b) p with h1|h1|h1
              · exact .inl h1
              · exact .inr ⟨h1,by have:=k.lt; omega⟩
              · exact absurd h1 hR
            · exact k.le j (by omega) q hq⟩
theorem IsB.uniq (so : SO R) {s : List (Option α)} {i b b' : Nat} (h : IsB R s i b) (h' : IsB R s i b') : b = b':=by
  rcases h.le b' h'.lt _ h'.is with k|⟨k,k1⟩ <;> rcases h'.le b h.lt _ h.is with k'|⟨k',k1'⟩
  · exact absurd k' (so.asy k)
  · rw [k'] at k; exact absurd k (so.irr _)
  · rw [k] at k'; exact absurd k' (so.irr _)
  · omega
theorem bst_of (so : SO R) {s : List (Option α)} {i b : Nat} (h : IsB R s i b) : bst R s i = some b:=by
  cases e : bst R s i with
  | none=>have:=h.is; rw [bst_none.1 e b h.lt] at this; cases this
  | some b'=>rw [(bst_some so e).uniq so h]
variable (R)
def bs (s : List (Option α)) : Option Nat:=bst R s s.length
/-- What looking at the first one answers. -/
def pkN (s : List (Option α)) : Nat:=(bs R s).getD 0
def pkP (s : List (Option α)) : α:=match bs R s with
  | none=>default
  | some b=>pg s b
def pkO (s : List (Option α)) : Bool:=(bs R s).isSome
def popL (s : List (Option α)) : List (Option α):=match bs R s with
  | none=>s
  | some b=>s.set b none
def putC (s : List (Option α)) (x : Int) (p : α) : Int:=if x < 0 ∨ (s.length : Int) ≤ x then 1 else match sg s x.toNat with
  | none=>0
  | some q=>if R p q then 0 else 5
def putL (s : List (Option α)) (x : Int) (p : α) : List (Option α):=if putC R s x p = 0 then s.set x.toNat (some p) else s
def lenS (s : List (Option α)) : Nat:=(s.filter Option.isSome).length
variable {R}
theorem sg_set (s : List (Option α)) (i j : Nat) (x : Option α) (h : i < s.length) : sg (s.set i x) j = if j = i then x else sg s j:=gs s i j x h
theorem sg_lt {s : List (Option α)} {i : Nat} {p : α} (h : sg s i = some p) : i < s.length:=by
  refine Decidable.byContradiction fun hn=>?_
  unfold sg at h
  rw [List.getD_eq_getElem?_getD,List.getElem?_eq_none (by omega)] at h
  cases h
/-- How many there are. -/
theorem lenS_eq {s : List (Option α)} {t : List Nat} (hn : t.Nodup) (h : ∀ x,x ∈ t ↔ (sg s x).isSome = true) : lenS s = t.length:=by
  have key : ∀ s : List (Option α),lenS s = ((List.range s.length).filter fun x=>(sg s x).isSome).length:=by
    intro s
    induction s with
    | nil=>rfl
    | cons a s ih =>
      unfold lenS at ih ⊢
      rw [List.length_cons,List.range_succ_eq_map,List.filter_cons,List.filter_cons]
      have e0 : sg (a::s) 0 = a:=rfl
      rw [e0,List.filter_map,]
      have e1 : ((fun x=>(sg (a::s) x).isSome) ∘ Nat.succ) = fun x=>(sg s x).isSome:=rfl
      rw [e1]
      split
      · rw [List.length_cons,List.length_cons,List.length_map,ih]
      · rw [List.length_map,ih]
  rw [key]
  have hr : ((List.range s.length).filter fun x=>(sg s x).isSome).Nodup:=List.Pairwise.filter _ List.nodup_range
  have i1 : ((List.range s.length).filter fun x=>(sg s x).isSome) ⊆ t:=fun x hx=>(h x).2 (List.mem_filter.1 hx).2
  have i2 : t ⊆ ((List.range s.length).filter fun x=>(sg s x).isSome):=fun x hx=>by
    have:=(h x).1 hx
    obtain ⟨p,hp⟩:=Option.isSome_iff_exists.1 this
    exact List.mem_filter.2 ⟨List.mem_range.2 (sg_lt hp),this⟩
  exact Nat.le_antisymm (List.Nodup.length_le_of_subset hr i1) (List.Nodup.length_le_of_subset hn i2)
theorem pkO_true {s : List (Option α)} (h : pkO R s = true) : ∃ b,bs R s = some b ∧ pkN R s = b ∧ pkP R s = pg s b ∧ popL R s = s.set b none:=by
  obtain ⟨b,e⟩:=Option.isSome_iff_exists.1 h
  exact ⟨b,e,by unfold pkN; rw [e]; rfl,by unfold pkP; rw [e],by unfold popL; rw [e]⟩
theorem pkO_false {s : List (Option α)} (h : pkO R s = false) : bs R s = none ∧ pkN R s = 0 ∧ pkP R s = default ∧ popL R s = s:=by
  have e : bs R s = none:=by
    cases e : bs R s with
    | none=>rfl
    | some b=>unfold pkO at h; rw [e] at h; cases h
  exact ⟨e,by unfold pkN; rw [e]; rfl,by unfold pkP; rw [e],by unfold popL; rw [e]⟩
/-- A row of things holds what is said. -/
structure HR (R : α → α → Prop) (s : List (Option α)) (t : List Nat) (pl : List Int) (pr : List α) : Prop where
  pi : PI s.length t pl
  hi : HI (key R fun x=>pr.getD x default) t
  lp : pr.length = s.length
  get : ∀ x,x < s.length → sg s x = if x ∈ t then some (pr.getD x default) else none
  n64 : s.length ≤ 64
theorem PI.nodup {n : Nat} {t : List Nat} {pl : List Int} (h : PI n t pl) : t.Nodup:=by
  rw [List.nodup_iff_pairwise_ne,List.pairwise_iff_getElem]
  intro i j hi hj hij e
  have:=h.inj hi hj (by rw [gl t i hi,gl t j hj,e])
  omega
section
variable {s : List (Option α)} {t : List Nat} {pl : List Int} {pr : List α}
theorem HR.mem (h : HR R s t pl pr) (x : Nat) : x ∈ t ↔ (sg s x).isSome = true:=by
  constructor
  · intro hm
    rw [h.get x (h.pi.lt_of_mem hm),if_pos hm]; rfl
  · intro hs
    obtain ⟨p,hp⟩:=Option.isSome_iff_exists.1 hs
    refine Decidable.byContradiction fun hn=>?_
    rw [h.get x (sg_lt hp),if_neg hn] at hp; cases hp
theorem HR.len (h : HR R s t pl pr) : lenS s = t.length:=lenS_eq h.pi.nodup h.mem
theorem HR.empty (h : HR R s [] pl pr) : bs R s = none:=bst_none.2 fun j hj=>by rw [h.get j hj,if_neg (by simp)]
theorem HR.pg (h : HR R s t pl pr) {x : Nat} (hx : x ∈ t) : pg s x = pr.getD x default:=by
  unfold Hp.pg; rw [h.get x (h.pi.lt_of_mem hx),if_pos hx]; rfl
theorem HR.first (so : SO R) (h : HR R s t pl pr) (h0 : 0 < t.length) : bs R s = some (t.getD 0 default):=by
  have hm:=gm t 0 h0
  refine bst_of so ⟨h.pi.lt 0 h0,by rw [h.pg hm,h.get _ (h.pi.lt 0 h0),if_pos hm],fun j hj q hq=>?_⟩
  rw [h.get j hj] at hq
  split at hq
  · rename_i hjt
    cases hq
    obtain ⟨i,hi,e⟩:=mg hjt
    have:=HI.min (so_key so fun x=>pr.getD x default) h.hi i hi
    rw [e] at this
    rw [h.pg hm]
    rcases (so_key so fun x=>pr.getD x default).tri (t.getD 0 default) j with k|k|k
    · rcases k with k|⟨k1,k2⟩
      · exact .inl k
      · exact .inr ⟨k1,by omega⟩
    · exact .inr ⟨by rw [k],by omega⟩
    · exact absurd k this
  · cases hq
theorem HR.new (n : Nat) (hn : n ≤ 64) (z : α) : HR R (List.replicate n none) [] (List.replicate n (-1)) (List.replicate n z):=by
  refine ⟨⟨by simp,fun i hi=>by simp at hi,fun i hi=>by simp at hi,fun x hx _=>?_⟩,fun i _ hi=>by simp at hi,by simp,fun x hx=>?_,by simpa using hn⟩
  · simp only [List.length_replicate] at hx
    simp [List.getD_eq_getElem?_getD,hx]
  · simp only [List.length_replicate] at hx
    simp [sg,List.getD_eq_getElem?_getD,hx]
/-- Once one has come to less, it goes up. -/
theorem HR.up (so : SO R) (h : HR R s t pl pr) {x i : Nat} {p : α} (hi : i < t.length) (hx : t.getD i default = x) (hp : R p (pr.getD x default)) : UI (key R fun y=>(pr.set x p).getD y default) t i:=by
  have hxn : x < pr.length:=by rw [h.lp,← hx]; exact h.pi.lt i hi
  have e : ∀ y,(pr.set x p).getD y default = if y = x then p else pr.getD y default:=fun y=>gs pr x y p hxn
  have so':=so_key so fun y=>pr.getD y default
  have dec : key R (fun y=>(pr.set x p).getD y default) = key R fun y=>if y = x then p else pr.getD y default:=by funext a b; unfold key; simp only [e]
  rw [dec]
  have old:=h.hi
  have inj : ∀ {j},j < t.length → t.getD j default = x → j = i:=fun hj e=>h.pi.inj hj hi (e.trans hx.symm)
  constructor
  · intro j h0 h1 hji hk
    have hjx : t.getD j default ≠ x:=fun e=>hji (inj h1 e)
    refine old j h0 h1 ?_
    unfold key at hk ⊢
    dsimp only at hk ⊢
    rw [if_neg hjx] at hk
    by_cases e1 : t.getD ((j - 1) / 2) default = x
    · rw [if_pos e1] at hk
      rw [e1] at hk ⊢
      rcases hk with hk|⟨hk,_⟩
      · exact .inl (so.tr _ _ _ hk hp)
      · exact .inl (hk ▸ hp)
    · rw [if_neg e1] at hk; exact hk
  · intro h0 j hj0 hj1 hjp hk
    have e2 : t.getD j default ≠ x:=fun e=>by have:=inj hj1 e; omega
    have e3 : t.getD ((i - 1) / 2) default ≠ x:=fun e=>by have:=inj (by omega) e; omega
    have k1:=old j hj0 hj1
    have k2:=old i h0 hi
    rw [hjp] at k1
    refine so'.le_tr k2 k1 ?_
    unfold key at hk ⊢
    dsimp only at hk ⊢
    rwa [if_neg e2,if_neg e3] at hk
/-- One that is new goes up from the end. -/
theorem HR.upNew (h : HR R s t pl pr) {x : Nat} {p : α} (hxn : x < s.length) (hx : x ∉ t) : UI (key R fun y=>(pr.set x p).getD y default) (t ++ [x]) t.length ∧ PI s.length (t ++ [x]) (pl.set x (t.length : Int)):=by
  have hl : x < pr.length:=by rw [h.lp]; exact hxn
  have e : ∀ y,(pr.set x p).getD y default = if y = x then p else pr.getD y default:=fun y=>gs pr x y p hl
  have a1 : ∀ i,i < t.length → (t ++ [x]).getD i default = t.getD i default:=fun i hi=>by simp [List.getD_eq_getElem?_getD,List.getElem?_append_left hi]
  have a2 : (t ++ [x]).getD t.length default = x:=by simp [List.getD_eq_getElem?_getD]
  have nx : ∀ i,i < t.length → t.getD i default ≠ x:=fun i hi e=>hx (e ▸ gm t i hi)
  have hlen : (t ++ [x]).length = t.length + 1:=by simp
  refine ⟨⟨fun i h0 h1 hne hk=>?_,fun h0 i hi0 hi1 hip=>?_⟩,⟨by simp [h.pi.len],fun i hi=>?_,fun i hi=>?_,fun y hy hny=>?_⟩⟩
  · rw [hlen] at h1
    have hi : i < t.length:=by omega
    rw [a1 i hi,a1 _ (by omega)] at hk
    refine h.hi i h0 hi ?_
    unfold key at hk ⊢
    dsimp only at hk ⊢
    rwa [e,e,if_neg (nx i hi),if_neg (nx _ (by omega))] at hk
  · rw [hlen] at hi1; omega
  · rw [hlen] at hi
    by_cases e1 : i = t.length
    · subst e1; rw [a2]; exact hxn
    · rw [a1 i (by omega)]; exact h.pi.lt i (by omega)
  · rw [hlen] at hi
    by_cases e1 : i = t.length
    · subst e1; rw [a2,gs _ _ _ _ (by rw [h.pi.len]; exact hxn),if_pos rfl]
    · rw [a1 i (by omega),gs _ _ _ _ (by rw [h.pi.len]; exact hxn),if_neg (nx i (by omega))]; exact h.pi.at_ i (by omega)
  · have hyx : y ≠ x:=fun e=>hny (by simp [e])
    rw [gs _ _ _ _ (by rw [h.pi.len]; exact hxn),if_neg hyx]
    exact h.pi.no y hy fun hm=>hny (by simp [hm])
/-- Behind going up. -/
theorem HR.put (h : HR R s t pl pr) {x : Nat} {p : α} (hxn : x < s.length) {t' : List Nat} {pl' : List Int} (hp : PI s.length t' pl') (hh : HI (key R fun y=>(pr.set x p).getD y default) t') (hm : ∀ y,y ∈ t' ↔ y = x ∨ y ∈ t) : HR R (s.set x (some p)) t' pl' (pr.set x p):=by
  have hl : x < pr.length:=by rw [h.lp]; exact hxn
  refine ⟨by rw [List.length_set]; exact hp,hh,by simp [h.lp],fun y hy=>?_,by rw [List.length_set]; exact h.n64⟩
  rw [List.length_set] at hy
  rw [sg_set _ _ _ _ hxn,gs pr x y p hl]
  by_cases e : y = x
  · rw [if_pos e,if_pos ((hm y).2 (.inl e)),if_pos e]
  · rw [if_neg e,if_neg e,h.get y hy]
    by_cases e2 : y ∈ t
    · rw [if_pos e2,if_pos ((hm y).2 (.inr e2))]
    · rw [if_neg e2,if_neg (fun k=>((hm y).1 k).elim e e2)]
/-- The last one laid where the first one was; that one gone. -/
theorem HR.cut (so : SO R) (h : HR R s t pl pr) (h0 : 0 < t.length) {y : Nat} (hy : y = t.getD (t.length - 1) default) : 
    PI s.length ((t.set 0 y).take (t.length - 1)) ((pl.set y 0).set (t.getD 0 default) (-1)) ∧ DI (key R fun x=>pr.getD x default) ((t.set 0 y).take (t.length - 1)) 0 ∧ (∀ z,z ∈ (t.set 0 y).take (t.length - 1) ↔ z ∈ t ∧ z ≠ t.getD 0 default):=by
  have ly : y < pl.length:=by rw [hy,h.pi.len]; exact h.pi.lt _ (by omega)
  have lx : t.getD 0 default < pl.length:=by rw [h.pi.len]; exact h.pi.lt _ h0
  have hlen : ((t.set 0 y).take (t.length - 1)).length = t.length - 1:=by simp; 
  have g : ∀ i,i < t.length - 1 → ((t.set 0 y).take (t.length - 1)).getD i default = if i = 0 then y else t.getD i default:=fun i hi=>by
    rw [List.getD_eq_getElem?_getD,List.getElem?_take_of_lt hi,← List.getD_eq_getElem?_getD,gs _ _ _ _ h0]
  have ni : ∀ i,i < t.length → 0 < i → t.getD i default ≠ t.getD 0 default:=fun i hi hi0 e=>by have:=h.pi.inj hi h0 e; omega
  have mem : ∀ z,z ∈ (t.set 0 y).take (t.length - 1) ↔ z ∈ t ∧ z ≠ t.getD 0 default:=by
    intro z
    constructor
    · intro hz
      obtain ⟨i,hi,e⟩:=mg hz
      rw [hlen] at hi
      rw [g i hi] at e
      split at e
      · rw [← e,hy]; exact ⟨gm t _ (by omega),ni _ (by omega) (by omega)⟩
      · rw [← e]; exact ⟨gm t _ (by omega),ni _ (by omega) (by omega)⟩
    · rintro ⟨hz,hne⟩
      obtain ⟨i,hi,e⟩:=mg hz
      have hi0 : i ≠ 0:=fun e0=>hne (by rw [← e,e0])
      by_cases e1 : i = t.length - 1
      · have:=gm ((t.set 0 y).take (t.length - 1)) 0 (by omega)
        have hyz : y = z:=by rw [hy,← e1,e]
        rw [g 0 (by omega),if_pos rfl] at this
        rw [← hyz]; exact this
      · have:=gm ((t.set 0 y).take (t.length - 1)) i (by omega)
        rw [g i (by omega),if_neg hi0,e] at this; exact this
  refine ⟨⟨by simp [h.pi.len],fun i hi=>?_,fun i hi=>?_,fun z hz hnz=>?_⟩,⟨fun i hi0 hi1 hne=>?_,fun hh=>absurd hh (by omega)⟩,mem⟩
  · rw [hlen] at hi
    rw [g i hi]; split
    · rw [hy]; exact h.pi.lt _ (by omega)
    · exact h.pi.lt _ (by omega)
  · rw [hlen] at hi
    rw [g i hi,gs _ _ _ _ (by rw [List.length_set]; exact lx),gs _ _ _ _ ly]
    by_cases e : i = 0
    · rw [if_pos e,if_neg (by rw [hy]; exact ni _ (by omega) (by omega)),if_pos rfl,e]; rfl
    · rw [if_neg e,if_neg (ni _ (by omega) (by omega)),if_neg (fun e2=>by rw [hy] at e2; have:=h.pi.inj (by omega) (by omega) e2; omega)]
      exact h.pi.at_ i (by omega)
  · rw [gs _ _ _ _ (by rw [List.length_set]; exact lx),gs _ _ _ _ ly]
    by_cases e : z = t.getD 0 default
    · rw [if_pos e]
    · rw [if_neg e]
      have hzt : z ∉ t:=fun k=>hnz ((mem z).2 ⟨k,e⟩)
      rw [if_neg (fun e2=>hzt (by rw [e2,hy]; exact gm t _ (by omega)))]
      exact h.pi.no z hz hzt
  · rw [hlen] at hi1
    rw [g i hi1,g _ (by omega),if_neg (by omega),if_neg hne]
    exact h.hi i hi0 (by omega)
/-- Behind going down. -/
theorem HR.pop (so : SO R) (h : HR R s t pl pr) (h0 : 0 < t.length) {t' : List Nat} {pl' : List Int} (hp : PI s.length t' pl') (hh : HI (key R fun x=>pr.getD x default) t') (hm : ∀ z,z ∈ t' ↔ z ∈ t ∧ z ≠ t.getD 0 default) : HR R (popL R s) t' pl' pr:=by
  have e : popL R s = s.set (t.getD 0 default) none:=by unfold popL; rw [h.first so h0]
  rw [e]
  have hx:=h.pi.lt 0 h0
  refine ⟨by rw [List.length_set]; exact hp,hh,by simp [h.lp],fun y hy=>?_,by rw [List.length_set]; exact h.n64⟩
  rw [List.length_set] at hy
  rw [sg_set _ _ _ _ hx]
  by_cases e : y = t.getD 0 default
  · rw [if_pos e,if_neg fun k=>((hm y).1 k).2 e]
  · rw [if_neg e,h.get y hy]
    by_cases e2 : y ∈ t
    · rw [if_pos e2,if_pos ((hm y).2 ⟨e2,e⟩)]
    · rw [if_neg e2,if_neg fun k=>e2 ((hm y).1 k).1]
end
end
end Hp
end Go.Proofs.Ytliofdfhimmjmaa
namespace Go.Proofs.Ytliofdfhimmjmaa
open Go.Rr Go Hp
set_option linter.unusedVariables false
abbrev eN : Nat → Value:=fun x=>.int .i64 (x : Int)
abbrev RI : Int → Int → Prop:=fun a b=>a < b
theorem soI : SO RI:=⟨fun a=>by unfold RI; omega,fun a b c=>by unfold RI; omega,fun a b=>by unfold RI; omega⟩
def cmpR {α : Type} (R : α → α → Prop) [DecidableRel R] (a b : α) : Int:=if R a b then -1 else if R b a then 1 else 0
theorem isNaNI_ct {w : World} {a : Int} {L : List HProp} (H : Holds w L) : CT Try.prog 114 [.int .i64 a] w fun u w'=>u = .bool false ∧ Holds w' L:=by
  refine CT.enter (N:=6) Try.func114 rfl rfl rfl rfl ?_
  refine W.seq (fun K0 hK0=>?_)
  refine W.region ?_
  refine O.ex (Ex.assign rfl) rfl ?_
  refine O.nil ?_
  refine hK0 _ _ _ ?_
  refine W.seq (fun K1 hK1=>?_)
  refine W.region ?_
  refine O.ex (Ex.move rfl) rfl ?_
  refine O.ex (Ex.move rfl) rfl ?_
  refine O.ex (Ex.neqI rfl rfl) rfl ?_
  refine O.ex (Ex.assign rfl) rfl ?_
  refine O.nil ?_
  refine hK1 _ _ _ ?_
  refine W.ret ?_
  try dsimp only [thenQ,blockQ,retQ]
  first|refine ⟨_,⟨_,_,rfl,rfl,rfl⟩,?_⟩|(refine retD_mark ?_; intro w H; refine ⟨_,⟨_,_,rfl,rfl,rfl⟩,?_⟩)|(refine retD_mark2 ?_; intro w H; refine ⟨_,⟨_,_,rfl,rfl,rfl⟩,?_⟩)
  exact ⟨congrArg Value.bool (decide_eq_false fun h=>h rfl),Holds.to (by assumption)⟩
theorem compareI_ct {w : World} {a b : Int} {L : List HProp} (H : Holds w L) : CT Try.prog 117 [.int .i64 a,.int .i64 b] w fun u w'=>u = .int .i64 (cmpR RI a b) ∧ Holds w' L:=by
  refine CT.enter (N:=20) Try.func117 rfl rfl rfl rfl ?_
  refine W.seq (fun K0 hK0=>?_)
  refine W.region ?_
  refine O.ex (Ex.assign rfl) rfl ?_
  refine O.nil ?_
  refine hK0 _ _ _ ?_
  refine W.seq (fun K1 hK1=>?_)
  refine W.region ?_
  refine O.ex (Ex.move rfl) rfl ?_
  refine O.callF Try.call114 rfl rfl (CT.mono (isNaNI_ct (Holds.to (by assumption))) ?_)
  rintro _ w ⟨rfl,H⟩
  refine O.ex (Ex.assign rfl) rfl ?_
  refine O.nil ?_
  refine hK1 _ _ _ ?_
  refine W.seq (fun K2 hK2=>?_)
  refine W.region ?_
  refine O.ex (Ex.move rfl) rfl ?_
  refine O.callF Try.call114 rfl rfl (CT.mono (isNaNI_ct (Holds.to (by assumption))) ?_)
  rintro _ w ⟨rfl,H⟩
  refine O.ex (Ex.assign rfl) rfl ?_
  refine O.nil ?_
  refine hK2 _ _ _ ?_
  refine W.seq (fun K3 hK3=>?_)
  refine W.seq (fun K4 hK4=>?_)
  refine W.region ?_
  refine O.ex (Ex.move rfl) rfl ?_
  refine O.nil ?_
  refine hK4 _ _ _ ?_
  refine W.known_f rfl (by first|rfl|decide|(simp; done)|omega) ?_
  refine W.skip ?_
  refine hK3 _ _ _ ?_
  refine W.seq (fun K5 hK5=>?_)
  refine W.seq (fun K6 hK6=>?_)
  refine W.region ?_
  refine O.ex (Ex.move rfl) rfl ?_
  refine O.nil ?_
  refine hK6 _ _ _ ?_
  refine W.known_f rfl (by first|rfl|decide|(simp; done)|omega) ?_
  refine W.skip ?_
  refine hK5 _ _ _ ?_
  refine W.seq (fun K7 hK7=>?_)
  refine W.seq (fun K8 hK8=>?_)
  refine W.region ?_
  refine O.ex (Ex.move rfl) rfl ?_
  refine O.ex (Ex.move rfl) rfl ?_
  refine O.ex (Ex.lss rfl rfl) rfl ?_
  refine O.nil ?_
  refine hK8 _ _ _ ?_
  first|refine W.cond_p rfl (fun h0=>?_) (fun h0=>?_)|refine W.cond_b rfl (fun h0=>?_) (fun h0=>?_)
  · refine W.seq (fun K9 hK9=>?_)
    refine W.region ?_
    refine O.ex (Ex.assign rfl) rfl ?_
    refine O.nil ?_
    refine hK9 _ _ _ ?_
    refine W.ret ?_
    try dsimp only [thenQ,blockQ,retQ]
    first|refine ⟨_,⟨_,_,rfl,rfl,rfl⟩,?_⟩|(refine retD_mark ?_; intro w H; refine ⟨_,⟨_,_,rfl,rfl,rfl⟩,?_⟩)|(refine retD_mark2 ?_; intro w H; refine ⟨_,⟨_,_,rfl,rfl,rfl⟩,?_⟩)
    refine ⟨congrArg (Value.int .i64) ?_,Holds.to (by assumption)⟩
    unfold cmpR
    first
    | rw [if_pos h0]
    | rw [if_neg h0,if_pos h1]
    | rw [if_neg h0,if_neg h1]
  · refine W.skip ?_
    refine hK7 _ _ _ ?_
    refine W.seq (fun K10 hK10=>?_)
    refine W.seq (fun K11 hK11=>?_)
    refine W.region ?_
    refine O.ex (Ex.move rfl) rfl ?_
    refine O.ex (Ex.move rfl) rfl ?_
    refine O.ex (Ex.gtr rfl rfl) rfl ?_
    refine O.nil ?_
    refine hK11 _ _ _ ?_
    first|refine W.cond_p rfl (fun h1=>?_) (fun h1=>?_)|refine W.cond_b rfl (fun h1=>?_) (fun h1=>?_)
    · refine W.seq (fun K12 hK12=>?_)
      refine W.region ?_
      refine O.ex (Ex.assign rfl) rfl ?_
      refine O.nil ?_
      refine hK12 _ _ _ ?_
      refine W.ret ?_
      try dsimp only [thenQ,blockQ,retQ]
      first|refine ⟨_,⟨_,_,rfl,rfl,rfl⟩,?_⟩|(refine retD_mark ?_; intro w H; refine ⟨_,⟨_,_,rfl,rfl,rfl⟩,?_⟩)|(refine retD_mark2 ?_; intro w H; refine ⟨_,⟨_,_,rfl,rfl,rfl⟩,?_⟩)
      refine ⟨congrArg (Value.int .i64) ?_,Holds.to (by assumption)⟩
      unfold cmpR
      first
      | rw [if_pos h0]
      | rw [if_neg h0,if_pos h1]
      | rw [if_neg h0,if_neg h1]
    · refine W.skip ?_
      refine hK10 _ _ _ ?_
      refine W.seq (fun K13 hK13=>?_)
      refine W.region ?_
      refine O.ex (Ex.assign rfl) rfl ?_
      refine O.nil ?_
      refine hK13 _ _ _ ?_
      refine W.ret ?_
      try dsimp only [thenQ,blockQ,retQ]
      first|refine ⟨_,⟨_,_,rfl,rfl,rfl⟩,?_⟩|(refine retD_mark ?_; intro w H; refine ⟨_,⟨_,_,rfl,rfl,rfl⟩,?_⟩)|(refine retD_mark2 ?_; intro w H; refine ⟨_,⟨_,_,rfl,rfl,rfl⟩,?_⟩)
      refine ⟨congrArg (Value.int .i64) ?_,Holds.to (by assumption)⟩
      unfold cmpR
      first
      | rw [if_pos h0]
      | rw [if_neg h0,if_pos h1]
      | rw [if_neg h0,if_neg h1]
theorem or_ct {w : World} {v : Value} {a b : Int} {L : List HProp} (H : Holds w (arr 3 (Value.int .i64) v [a,b]::L)) : CT Try.prog 116 [v] w fun u w'=>u = .int .i64 (if a ≠ 0 then a else b) ∧ Holds w' L:=by
  refine CT.enter (N:=18) Try.func116 rfl rfl rfl rfl ?_
  refine W.seq (fun K0 hK0=>?_)
  refine W.region ?_
  refine O.ex (Ex.assign rfl) rfl ?_
  refine O.nil ?_
  refine hK0 _ _ _ ?_
  refine W.seq (fun K1 hK1=>?_)
  refine W.region ?_
  refine O.ex (Ex.assign rfl) rfl ?_
  refine O.nil ?_
  refine hK1 _ _ _ ?_
  refine W.seq (fun K2 hK2=>?_)
  refine W.seq (fun K3 hK3=>?_)
  refine W.region ?_
  refine O.ex (Ex.move rfl) rfl ?_
  refine O.ex (by first|exact Ex.lenR Try.runUnderlying28 rfl|exact Ex.lenIn Try.runUnderlying28 rfl|exact Ex.lenL Try.runUnderlying28 rfl|exact Ex.len rfl Try.runUnderlying28 rfl) rfl ?_
  refine O.ex (Ex.move rfl) rfl ?_
  refine O.nil ?_
  refine hK3 _ _ _ ?_
  refine W.block ?_
  refine W.loop (σ:=Nat) (fun i=>[(3,.int .i64 0),(6,v),(7,.int .i64 ((2 : Nat) : Int)),(8,.int .i64 (i : Int))]) (fun i ds w=>ds = [] ∧ i ≤ 2 ∧ (0 < i → a = 0) ∧ (1 < i → b = 0) ∧ Holds w (arr 3 (Value.int .i64) v [a,b]::L)) (fun i=>2 - i) 0 ⟨rfl,rfl,rfl,rfl,trivial⟩ ⟨rfl,by omega,by omega,by omega,Holds.to (by assumption)⟩ ?_
  clear H
  rintro i _ w ⟨rfl,hi,h0,h1,H⟩
  refine W.seq (fun K4 hK4=>?_)
  refine W.region ?_
  refine O.ex (Ex.lss rfl rfl) rfl ?_
  refine O.nil ?_
  refine hK4 _ _ _ ?_
  refine W.seq (fun K5 hK5=>?_)
  first|refine W.cond_p rfl (fun hlt=>?_) (fun hge=>?_)|refine W.cond_b rfl (fun hlt=>?_) (fun hge=>?_)
  · refine W.skip ?_
    refine hK5 _ _ _ ?_
    refine W.seq (fun K6 hK6=>?_)
    refine W.block ?_
    refine W.seq (fun K7 hK7=>?_)
    refine W.region ?_
    have hlen : (([a,b] : List Int).length : Int) = 2:=rfl
    have hg : ([a,b] : List Int).getD ((i : Nat) : Int).toNat default = if i = 0 then a else b:=by
      obtain rfl|rfl : i = 0 ∨ i = 1:=by omega
      · rfl
      · rfl
    refine O.ex (by first|exact Ex.idxR Try.runUnderlying28 Try.sizeOf3 rfl rfl|exact Ex.idxIn Try.runUnderlying28 Try.sizeOf3 rfl rfl|exact Ex.idxS Try.runUnderlying28 Try.sizeOf3 rfl rfl|exact Ex.idx Try.runUnderlying28 Try.sizeOf3 rfl rfl (by omega) (by omega)) rfl ?_
    refine O.ex (by first|exact Ex.loadP Try.isAgg3 rfl|exact Ex.loadR Try.isAgg3 rfl|exact Ex.loadIn1 Try.isAgg3 rfl (Holds.to (by assumption))) rfl ?_
    rw [hg]
    refine O.ex (Ex.assign rfl) rfl ?_
    refine O.nil ?_
    refine hK7 _ _ _ ?_
    refine W.seq (fun K8 hK8=>?_)
    refine W.region ?_
    refine O.ex (Ex.move rfl) rfl ?_
    refine O.ex (Ex.move rfl) rfl ?_
    refine O.ex (Ex.neqI rfl rfl) rfl ?_
    refine O.nil ?_
    refine hK8 _ _ _ ?_
    first|refine W.cond_p rfl (fun hz=>?_) (fun hnz=>?_)|refine W.cond_b rfl (fun hz=>?_) (fun hnz=>?_)
    · refine W.seq (fun K9 hK9=>?_)
      refine W.region ?_
      refine O.ex (Ex.move rfl) rfl ?_
      refine O.ex (Ex.assign rfl) rfl ?_
      refine O.nil ?_
      refine hK9 _ _ _ ?_
      refine W.ret ?_
      try dsimp only [thenQ,blockQ,retQ]
      first|refine ⟨_,⟨_,_,rfl,rfl,rfl⟩,?_⟩|(refine retD_mark ?_; intro w H; refine ⟨_,⟨_,_,rfl,rfl,rfl⟩,?_⟩)|(refine retD_mark2 ?_; intro w H; refine ⟨_,⟨_,_,rfl,rfl,rfl⟩,?_⟩)
      refine ⟨congrArg (Value.int .i64) ?_,Holds.to (by assumption)⟩
      first
      | (by_cases e : i = 0
         · rw [if_pos e] at hz ⊢; rw [if_pos hz]
         · rw [if_neg e]; have:=h0 (by omega); rw [if_neg (by omega)])
      | (obtain rfl : i = 2:=by omega
         have e0:=h0 (by omega); have e1:=h1 (by omega)
         rw [if_neg (by omega)]; omega)
    · refine W.skip ?_
      refine hK6 _ _ _ ?_
      refine W.region ?_
      refine O.ex (by first|exact Ex.addI rfl rfl|exact Ex.add rfl rfl rfl) rfl ?_
      refine O.ex (Ex.move rfl) rfl ?_
      refine O.nil ?_
      refine ⟨i + 1,⟨rfl,rfl,rfl,rfl,trivial⟩,⟨rfl,by omega,fun _=>?_,fun _=>?_,Holds.to (by assumption)⟩,by omega⟩
      · by_cases e : i = 0
        · rw [if_pos e] at hnz; omega
        · exact h0 (by omega)
      · rw [if_neg (by omega)] at hnz; omega
  · refine W.exit ?_
    refine hK2 _ _ _ ?_
    refine W.seq (fun K10 hK10=>?_)
    refine W.region ?_
    refine O.ex (Ex.move rfl) rfl ?_
    refine O.ex (Ex.assign rfl) rfl ?_
    refine O.nil ?_
    refine hK10 _ _ _ ?_
    refine W.ret ?_
    try dsimp only [thenQ,blockQ,retQ]
    first|refine ⟨_,⟨_,_,rfl,rfl,rfl⟩,?_⟩|(refine retD_mark ?_; intro w H; refine ⟨_,⟨_,_,rfl,rfl,rfl⟩,?_⟩)|(refine retD_mark2 ?_; intro w H; refine ⟨_,⟨_,_,rfl,rfl,rfl⟩,?_⟩)
    refine ⟨congrArg (Value.int .i64) ?_,Holds.to (by assumption)⟩
    first
    | (by_cases e : i = 0
       · rw [if_pos e] at hz ⊢; rw [if_pos hz]
       · rw [if_neg e]; have:=h0 (by omega); rw [if_neg (by omega)])
    | (obtain rfl : i = 2:=by omega
       have e0:=h0 (by omega); have e1:=h1 (by omega)
       rw [if_neg (by omega)]; omega)
theorem key_cmp {α : Type} [Inhabited α] {R : α → α → Prop} [DecidableRel R] (so : SO R) (pr : List α) (a b : Nat) : ((if cmpR R (pr.getD a default) (pr.getD b default) ≠ 0 then cmpR R (pr.getD a default) (pr.getD b default) else cmpR RI (a : Int) (b : Int)) < 0) ↔ key R (fun x=>pr.getD x default) a b:=by
  have tri:=so.tri (pr.getD a default) (pr.getD b default)
  unfold key cmpR RI
  dsimp only
  rcases tri with h|h|h
  · rw [if_pos h,if_pos (by decide)]
    exact ⟨fun _=>.inl h,fun _=>by decide⟩
  · have i:=so.irr (pr.getD b default)
    have e0 : (if R (pr.getD a default) (pr.getD b default) then (-1 : Int) else if R (pr.getD b default) (pr.getD a default) then 1 else 0) = 0:=by rw [h]; simp only [if_neg i]
    rw [e0,if_neg (by decide)]
    constructor
    · intro h1
      refine .inr ⟨h,?_⟩
      (repeat' split at h1) <;> omega
    · rintro (k|⟨_,k⟩)
      · rw [h] at k; exact absurd k i
      · rw [if_pos (by omega)]; decide
  · rw [if_neg (so.asy h),if_pos h,if_pos (by decide)]
    constructor
    · intro k; exact absurd k (by decide)
    · rintro (k|⟨k,_⟩)
      · exact absurd k (so.asy h)
      · rw [k] at h; exact absurd h (so.irr _)
abbrev kI (pr : List Int) : Nat → Nat → Prop:=key RI fun x=>pr.getD x default
instance {pr : List Int} {a b : Nat} : Decidable (kI pr a b):=by unfold kI key; infer_instance
/-- A heap, its slices named. -/
def HpOI (h : Nat) (tv pv qv : Value) (t : List Nat) (pl : List Int) (pr : List Int) : HProp:=star [pt h (.cells #[tv,pv,qv] 126 (0,0)),arr 3 eN tv t,arr 3 (Value.int .i64) pv pl,arr 3 (Value.int .i64) qv pr]
theorem hpOI_open {w : World} {h : Nat} {tv pv qv : Value} {t : List Nat} {pl : List Int} {pr : List Int} {L : List HProp} : Holds w (HpOI h tv pv qv t pl pr::L) ↔ Holds w (pt h (.cells #[tv,pv,qv] 126 (0,0))::arr 3 eN tv t::arr 3 (Value.int .i64) pv pl::arr 3 (Value.int .i64) qv pr::L):=by
  unfold HpOI
  simp only [Holds.star,List.cons_append,List.nil_append]
theorem aheadI_ct {w : World} {h : Nat} {tv pv qv : Value} {t : List Nat} {pl : List Int} {pr : List Int} {a b : Nat} {L : List HProp} (ha : a < pr.length) (hb : b < pr.length) (H : Holds w (HpOI h tv pv qv t pl pr::L)) :
    CT Try.prog 113 [.pointer (some ⟨h,0,none⟩),.int .i64 (a : Int),.int .i64 (b : Int)] w fun u w'=>u = .bool (decide (kI pr a b)) ∧ Holds w' (HpOI h tv pv qv t pl pr::L):=by
  have H:=hpOI_open.1 H
  have ha0 : (0 : Int) ≤ (a : Int):=by omega
  have hb0 : (0 : Int) ≤ (b : Int):=by omega
  refine CT.enter (N:=28) Try.func113 rfl rfl rfl rfl ?_
  refine W.seq (fun K0 hK0=>?_)
  refine W.region ?_
  refine O.ex (Ex.assign rfl) rfl ?_
  refine O.nil ?_
  refine hK0 _ _ _ ?_
  refine W.seq (fun K1 hK1=>?_)
  have s3:=arr_sl (e:=Value.int .i64) (v:=qv) (xs:=pr) (Holds.to (by assumption)) (by omega)
  refine W.drawTo _ (.take 0 (.take 1 (.take 2 (.take 3 (.take 4 (.take 5 (.take 6 (.take 7 (.take 8 (.take 9 (.take 10 (.take 11 (.take 12 (.take 13 (.take 15 (.take 16 (.one 14 (.one 17 (.one 18 (.one 19 (.take 20 (.take 21 .nil)))))))))))))))))))))) (mixed) (fun _ _ _ _ h=>h) (by assumption) (PP.refl _) (by decide +kernel) (fun w H=>?_)
  refine OQ.ex rfl (fun w H=>(Ex.move rfl)) rfl ?_
  refine OQ.ex rfl (fun w H=>(by first|exact Ex.nilPtr rfl|exact Ex.nilFunc rfl|exact Ex.nilYield rfl)) rfl ?_
  refine OQ.ex rfl (fun w H=>(by first|exact Ex.field0 fld126_2 rfl|exact Ex.field fld126_2 rfl|exact Ex.fieldS fld126_2 rfl)) rfl ?_
  refine OQ.ex rfl (fun w H=>(by first|exact Ex.loadP Try.isAgg28 rfl|exact Ex.loadR Try.isAgg28 rfl|exact Ex.loadIn1 Try.isAgg28 rfl (Holds.to (by assumption)))) rfl ?_
  refine OQ.ex rfl (fun w H=>(Ex.move rfl)) rfl ?_
  refine OQ.ex rfl (fun w H=>(by first|exact Ex.idxR Try.runUnderlying28 Try.sizeOf3 rfl rfl|exact Ex.idxIn Try.runUnderlying28 Try.sizeOf3 rfl rfl|exact Ex.idxS Try.runUnderlying28 Try.sizeOf3 rfl rfl|exact Ex.idx Try.runUnderlying28 Try.sizeOf3 rfl rfl (by omega) (by omega))) rfl ?_
  refine OQ.ex rfl (fun w H=>(by first|exact Ex.loadP Try.isAgg3 rfl|exact Ex.loadR Try.isAgg3 rfl|exact Ex.loadIn1 Try.isAgg3 rfl (Holds.to (by assumption)))) rfl ?_
  refine OQ.ex rfl (fun w H=>(Ex.move rfl)) rfl ?_
  refine OQ.ex rfl (fun w H=>(by first|exact Ex.nilPtr rfl|exact Ex.nilFunc rfl|exact Ex.nilYield rfl)) rfl ?_
  refine OQ.ex rfl (fun w H=>(by first|exact Ex.field0 fld126_2 rfl|exact Ex.field fld126_2 rfl|exact Ex.fieldS fld126_2 rfl)) rfl ?_
  refine OQ.ex rfl (fun w H=>(by first|exact Ex.loadP Try.isAgg28 rfl|exact Ex.loadR Try.isAgg28 rfl|exact Ex.loadIn1 Try.isAgg28 rfl (Holds.to (by assumption)))) rfl ?_
  refine OQ.ex rfl (fun w H=>(Ex.move rfl)) rfl ?_
  refine OQ.ex rfl (fun w H=>(by first|exact Ex.idxR Try.runUnderlying28 Try.sizeOf3 rfl rfl|exact Ex.idxIn Try.runUnderlying28 Try.sizeOf3 rfl rfl|exact Ex.idxS Try.runUnderlying28 Try.sizeOf3 rfl rfl|exact Ex.idx Try.runUnderlying28 Try.sizeOf3 rfl rfl (by omega) (by omega))) rfl ?_
  refine OQ.ex rfl (fun w H=>(by first|exact Ex.loadP Try.isAgg3 rfl|exact Ex.loadR Try.isAgg3 rfl|exact Ex.loadIn1 Try.isAgg3 rfl (Holds.to (by assumption)))) rfl ?_
  refine OQ.ex rfl (fun w H=>(Ex.move rfl)) rfl ?_
  refine OQ.ex rfl (fun w H=>(Ex.move rfl)) rfl ?_
  refine OQ.step rfl ?_
  refine O.callF Try.call117 rfl rfl (CT.mono (compareI_ct (Holds.to (by assumption))) ?_)
  rintro _ w ⟨rfl,H⟩
  refine O.thenNil ⟨(by first|exact Holds.to (by assumption)|assumption),?_⟩
  refine OQ.step rfl ?_
  refine O.callF Try.call117 rfl rfl (CT.mono (compareI_ct (Holds.to (by assumption))) ?_)
  rintro _ w ⟨rfl,H⟩
  refine O.thenNil ⟨(by first|exact Holds.to (by assumption)|assumption),?_⟩
  refine OQ.step rfl ?_
  refine O.buildK (e:=Value.int .i64) (vs:=[(0,.int .i64 (cmpR RI (pr.getD a default) (pr.getD b default))),(1,.int .i64 (cmpR RI a b))]) [cmpR RI (pr.getD a default) (pr.getD b default),cmpR RI a b] Try.runUnderlying28 Try.sizeOf3 Try.zeroValue3 rfl rfl rfl rfl rfl rfl (fun v25 w hv25 H=>?_)
  refine O.thenNil ⟨(by first|exact Holds.to (by assumption)|assumption),?_⟩
  refine OQ.step rfl ?_
  refine O.callF Try.call116 rfl rfl (CT.mono (or_ct (Holds.to (by assumption))) ?_)
  rintro _ w ⟨rfl,H⟩
  refine O.thenNil ⟨(by first|exact Holds.to (by assumption)|assumption),?_⟩
  refine OQ.ex rfl (fun w H=>(Ex.lss rfl rfl)) rfl ?_
  refine OQ.ex rfl (fun w H=>(Ex.assign rfl)) rfl ?_
  refine OQ.done ?_
  refine hK1 _ _ _ ?_
  refine W.ret ?_
  try dsimp only [thenQ,blockQ,retQ]
  first|refine ⟨_,⟨_,_,rfl,rfl,rfl⟩,?_⟩|(refine retD_mark ?_; intro w H; refine ⟨_,⟨_,_,rfl,rfl,rfl⟩,?_⟩)|(refine retD_mark2 ?_; intro w H; refine ⟨_,⟨_,_,rfl,rfl,rfl⟩,?_⟩)
  exact ⟨congrArg Value.bool (decide_eq_decide.2 (key_cmp soI pr a b)),hpOI_open.2 (Holds.to (by assumption))⟩
theorem layI_ct {w : World} {h : Nat} {tv pv qv : Value} {t : List Nat} {pl : List Int} {pr : List Int} {x p : Nat} {L : List HProp} (hx : x < pl.length) (hp : p < t.length) (H : Holds w (HpOI h tv pv qv t pl pr::L)) :
    CT Try.prog 95 [.pointer (some ⟨h,0,none⟩),.int .i64 (x : Int),.int .i64 (p : Int)] w fun u w'=>u = .tuple #[] ∧ Holds w' (HpOI h tv pv qv (t.set p x) (pl.set x (p : Int)) pr::L):=by
  have H:=hpOI_open.1 H
  have hx0 : (0 : Int) ≤ (x : Int):=by omega
  have hp0 : (0 : Int) ≤ (p : Int):=by omega
  refine CT.enter (N:=20) Try.func95 rfl rfl rfl rfl ?_
  have s1:=arr_sl (e:=eN) (v:=tv) (xs:=t) (Holds.to (by assumption)) (by omega)
  have s2:=arr_sl (e:=Value.int .i64) (v:=pv) (xs:=pl) (Holds.to (by assumption)) (by omega)
  refine W.drawTo (pt h _::[]) (.take 0 (.take 1 (.take 2 (.take 3 (.take 4 (.take 5 (.take 6 (.take 7 (.take 8 (.take 9 (.take 10 (.take 11 (.take 12 (.one 13 (.take 14 (.one 15 .nil)))))))))))))))) (mixed) (fun _ _ _ _ h=>h) (by assumption) PP.auto (by decide +kernel) (fun w H=>?_)
  refine OQ.ex rfl (fun w H=>(Ex.move rfl)) rfl ?_
  refine OQ.ex rfl (fun w H=>(by first|exact Ex.nilPtr rfl|exact Ex.nilFunc rfl|exact Ex.nilYield rfl)) rfl ?_
  refine OQ.ex rfl (fun w H=>(by first|exact Ex.field0 fld126_0 rfl|exact Ex.field fld126_0 rfl|exact Ex.fieldS fld126_0 rfl)) rfl ?_
  refine OQ.ex rfl (fun w H=>(by first|exact Ex.loadP Try.isAgg28 rfl|exact Ex.loadR Try.isAgg28 rfl|exact Ex.loadIn1 Try.isAgg28 rfl (Holds.to (by assumption)))) rfl ?_
  refine OQ.ex rfl (fun w H=>(Ex.move rfl)) rfl ?_
  refine OQ.ex rfl (fun w H=>(Ex.move rfl)) rfl ?_
  refine OQ.ex rfl (fun w H=>(by first|exact Ex.nilPtr rfl|exact Ex.nilFunc rfl|exact Ex.nilYield rfl)) rfl ?_
  refine OQ.ex rfl (fun w H=>(by first|exact Ex.field0 fld126_1 rfl|exact Ex.field fld126_1 rfl|exact Ex.fieldS fld126_1 rfl)) rfl ?_
  refine OQ.ex rfl (fun w H=>(by first|exact Ex.loadP Try.isAgg28 rfl|exact Ex.loadR Try.isAgg28 rfl|exact Ex.loadIn1 Try.isAgg28 rfl (Holds.to (by assumption)))) rfl ?_
  refine OQ.ex rfl (fun w H=>(Ex.move rfl)) rfl ?_
  refine OQ.ex rfl (fun w H=>(Ex.move rfl)) rfl ?_
  refine OQ.ex rfl (fun w H=>(Ex.move rfl)) rfl ?_
  refine OQ.ex rfl (fun w H=>(by first|exact Ex.idxR Try.runUnderlying28 Try.sizeOf3 rfl rfl|exact Ex.idxIn Try.runUnderlying28 Try.sizeOf3 rfl rfl|exact Ex.idxS Try.runUnderlying28 Try.sizeOf3 rfl rfl|exact Ex.idx Try.runUnderlying28 Try.sizeOf3 rfl rfl (by omega) (by omega))) rfl ?_
  refine OQ.step rfl ?_
  first|refine O.storeP Try.sizeOf3 rfl rfl (fun w H=>?_)|refine O.storeR Try.sizeOf3 rfl rfl (fun w H=>?_)
  refine O.thenNil ⟨(by first|exact Holds.to (by assumption)|assumption),?_⟩
  refine OQ.ex rfl (fun w H=>(by first|exact Ex.idxR Try.runUnderlying28 Try.sizeOf3 rfl rfl|exact Ex.idxIn Try.runUnderlying28 Try.sizeOf3 rfl rfl|exact Ex.idxS Try.runUnderlying28 Try.sizeOf3 rfl rfl|exact Ex.idx Try.runUnderlying28 Try.sizeOf3 rfl rfl (by omega) (by omega))) rfl ?_
  refine OQ.last rfl (by decide +kernel) ?_
  first|refine O.storeP Try.sizeOf3 rfl rfl (fun w H=>?_)|refine O.storeR Try.sizeOf3 rfl rfl (fun w H=>?_)
  refine O.nil ?_
  try dsimp only [thenQ,blockQ,retQ]
  first|refine ⟨_,rfl,?_⟩|(refine retD_mark ?_; intro w H; refine ⟨_,rfl,?_⟩)|(refine retD_mark2 ?_; intro w H; refine ⟨_,rfl,?_⟩)
  exact ⟨rfl,hpOI_open.2 (Holds.to (by assumption))⟩
abbrev kS (pr : List ByteArray) : Nat → Nat → Prop:=key LtS fun x=>pr.getD x default
instance {pr : List ByteArray} {a b : Nat} : Decidable (kS pr a b):=by unfold kS key; infer_instance
end Go.Proofs.Ytliofdfhimmjmaa
namespace Go.Proofs.Ytliofdfhimmjmaa
open Go.Rr Go Hp
set_option linter.unusedVariables false
/-- While a thing goes up or down: where it stands is not written yet. -/
structure Mid (n : Nat) (T : List Nat) (PL : List Int) (ta : List Nat) (pa : List Int) (p x : Nat) : Prop where
  pi : PI n T PL
  lp : p < T.length
  gp : T.getD p default = x
  lt : ta.length = T.length
  la : pa.length = n
  st : ∀ i,i < T.length → i ≠ p → ta.getD i default = T.getD i default
  sp : ∀ y,y < n → y ≠ x → pa.getD y default = PL.getD y default
theorem Mid.start {n : Nat} {T : List Nat} {PL : List Int} (h : PI n T PL) {p : Nat} (hp : p < T.length) : Mid n T PL T PL p (T.getD p default):=⟨h,hp,rfl,rfl,h.len,fun _ _ _=>rfl,fun _ _ _=>rfl⟩
theorem Mid.xn {n p x : Nat} {T ta : List Nat} {PL pa : List Int} (h : Mid n T PL ta pa p x) : x < n:=h.gp ▸ h.pi.lt p h.lp
theorem Mid.done {n p x : Nat} {T ta : List Nat} {PL pa : List Int} (h : Mid n T PL ta pa p x) : ta.set p x = T ∧ pa.set x (p : Int) = PL:=by
  have hp:=h.lp
  have hx:=h.xn
  constructor
  · refine ext _ _ (by rw [List.length_set,h.lt]) fun i hi=>?_
    rw [List.length_set,h.lt] at hi
    rw [gs _ _ _ _ (by rw [h.lt]; exact hp)]
    by_cases e : i = p
    · subst e; rw [if_pos rfl,h.gp]
    · rw [if_neg e,h.st i hi e]
  · refine ext _ _ (by rw [List.length_set,h.la,h.pi.len]) fun y hy=>?_
    rw [List.length_set,h.la] at hy
    rw [gs _ _ _ _ (by rw [h.la]; exact hx)]
    by_cases e : y = x
    · subst e; rw [if_pos rfl,← h.gp,h.pi.at_ p hp]
    · rw [if_neg e,h.sp y hy e]
theorem Mid.move {n p x : Nat} {T ta : List Nat} {PL pa : List Int} (h : Mid n T PL ta pa p x) {q : Nat} (hq : q < T.length) (hpq : p ≠ q) :
    Mid n (swap T p q) ((PL.set (T.getD q default) p).set (T.getD p default) q) (ta.set p (T.getD q default)) (pa.set (T.getD q default) (p : Int)) q x:=by
  have hp:=h.lp
  have hx:=h.xn
  have hqn:=h.pi.lt q hq
  have g:=fun k=>swap_get (t:=T) hp hq k
  refine ⟨h.pi.swap hp hq hpq,by rw [swap_len]; exact hq,by rw [g,if_pos rfl,h.gp],by rw [List.length_set,swap_len,h.lt],by rw [List.length_set,h.la],fun i hi hiq=>?_,fun y hy hyx=>?_⟩
  · rw [swap_len] at hi
    rw [gs _ _ _ _ (by rw [h.lt]; exact hp),g,if_neg hiq]
    by_cases e : i = p
    · rw [if_pos e,if_pos e]
    · rw [if_neg e,if_neg e,h.st i hi e]
  · rw [h.gp,gs _ _ _ _ (by rw [h.la]; exact hqn),gs _ _ _ _ (by rw [List.length_set,h.pi.len]; exact hx),if_neg hyx,gs _ _ _ _ (by rw [h.pi.len]; exact hqn)]
    split
    · rfl
    · exact h.sp y hy hyx
set_option maxHeartbeats 1000000 in
theorem upI_ct {w : World} {h n p : Nat} {tv pv qv : Value} {t : List Nat} {pl : List Int} {pr : List Int} {L : List HProp} (hpi : PI n t pl) (hpr : pr.length = n) (hn : n ≤ 64) (hp : p < t.length) (hui : UI (kI pr) t p) (H : Holds w (HpOI h tv pv qv t pl pr::L)) :
    CT Try.prog 93 [.pointer (some ⟨h,0,none⟩),.int .i64 (p : Int)] w fun u w'=>u = .tuple #[] ∧ ∃ t' pl',PI n t' pl' ∧ HI (kI pr) t' ∧ (∀ x,x ∈ t' ↔ x ∈ t) ∧ Holds w' (HpOI h tv pv qv t' pl' pr::L):=by
  obtain ⟨x,hx⟩ : ∃ x,x = t.getD p default:=⟨_,rfl⟩
  have hmid:=Mid.start hpi hp
  rw [← hx] at hmid
  have htn:=hpi.len_le
  have so:=so_key soI fun x=>pr.getD x default
  have H:=hpOI_open.1 H
  refine CT.enter (N:=47) Try.func93 rfl rfl rfl rfl ?_
  refine W.seq (fun K0 hK0=>?_)
  refine W.region ?_
  refine O.ex (Ex.move rfl) rfl ?_
  refine O.ex (by first|exact Ex.nilPtr rfl|exact Ex.nilFunc rfl|exact Ex.nilYield rfl) rfl ?_
  refine O.ex (by first|exact Ex.field0 fld126_0 rfl|exact Ex.field fld126_0 rfl|exact Ex.fieldS fld126_0 rfl) rfl ?_
  refine O.ex (by first|exact Ex.loadP Try.isAgg28 rfl|exact Ex.loadR Try.isAgg28 rfl|exact Ex.loadIn1 Try.isAgg28 rfl (Holds.to (by assumption))) rfl ?_
  refine O.ex (Ex.move rfl) rfl ?_
  refine O.ex (by first|exact Ex.idxR Try.runUnderlying28 Try.sizeOf3 rfl rfl|exact Ex.idxIn Try.runUnderlying28 Try.sizeOf3 rfl rfl|exact Ex.idxS Try.runUnderlying28 Try.sizeOf3 rfl rfl|exact Ex.idx Try.runUnderlying28 Try.sizeOf3 rfl rfl (by omega) (by omega)) rfl ?_
  refine O.ex (by first|exact Ex.loadP Try.isAgg3 rfl|exact Ex.loadR Try.isAgg3 rfl|exact Ex.loadIn1 Try.isAgg3 rfl (Holds.to (by assumption))) rfl ?_
  rw [show t.getD ((p : Nat) : Int).toNat default = x from hx.symm]
  refine O.ex (Ex.assign rfl) rfl ?_
  refine O.nil ?_
  refine hK0 _ _ _ ?_
  refine W.seq (fun K1 hK1=>?_)
  refine W.block ?_
  have H:=(hpOI_open (h:=h) (tv:=tv) (pv:=pv) (qv:=qv) (t:=t) (pl:=pl) (pr:=pr)).2 (Holds.to (by assumption))
  refine W.loop (σ:=Nat) (fun q=>[(0,.pointer (some ⟨h,0,none⟩)),(1,.int .i64 (q : Int)),(4,.int .i64 (x : Int))]) (fun q ds w=>ds = [] ∧ ∃ T PL ta pa,Mid n T PL ta pa q x ∧ UI (kI pr) T q ∧ (∀ y,y ∈ T ↔ y ∈ t) ∧ Holds w (HpOI h tv pv qv ta pa pr::L)) (fun q : Nat=>q) p ⟨rfl,rfl,rfl,trivial⟩ ⟨rfl,t,pl,t,pl,hmid,hui,fun _=>Iff.rfl,Holds.to (by assumption)⟩ ?_
  clear H hmid hui
  rintro q _ w ⟨rfl,T,PL,ta,pa,hm,hui,hmem,H⟩
  have hq:=hm.lp
  have hTn:=hm.pi.len_le
  have hxn:=hm.xn
  have hla:=hm.la
  have hlt:=hm.lt
  have H:=hpOI_open.1 H
  refine W.seq (fun K2 hK2=>?_)
  refine W.seq (fun K3 hK3=>?_)
  refine W.region ?_
  refine O.ex (Ex.move rfl) rfl ?_
  refine O.ex (Ex.gtr rfl rfl) rfl ?_
  refine O.ex (Ex.move rfl) rfl ?_
  have hqp : 0 < q → (((q : Nat) : Int) - 1) / 2 = (((q - 1) / 2 : Nat) : Int):=by omega
  have hqq : (q - 1) / 2 < T.length:=by omega
  have hne : 0 < q → (q - 1) / 2 ≠ q:=by omega
  have hgt:=fun h0=>hm.st _ hqq (hne h0)
  have hgn:=hm.pi.lt _ hqq
  first|refine O.split_p (t:=14) rfl (fun hpos=>?_) (fun hzero=>?_)|refine O.split (t:=14) rfl (fun hpos=>?_) (fun hzero=>?_)
  · have hqp : 0 < q → (((q : Nat) : Int) - 1) / 2 = (((q - 1) / 2 : Nat) : Int):=by omega
    have hqq : (q - 1) / 2 < T.length:=by omega
    have hne : 0 < q → (q - 1) / 2 ≠ q:=by omega
    have hgt:=fun h0=>hm.st _ hqq (hne h0)
    have hgn:=hm.pi.lt _ hqq
    refine O.guard_t rfl rfl ?_
    refine O.ex (Ex.move rfl) rfl ?_
    refine O.guard_t rfl rfl ?_
    refine O.ex (Ex.move rfl) rfl ?_
    refine O.guard_t rfl rfl ?_
    refine O.ex (Ex.move rfl) rfl ?_
    refine O.guard_t rfl rfl ?_
    refine O.ex (by first|exact Ex.nilPtr rfl|exact Ex.nilFunc rfl|exact Ex.nilYield rfl) rfl ?_
    refine O.guard_t rfl rfl ?_
    refine O.ex (by first|exact Ex.field0 fld126_0 rfl|exact Ex.field fld126_0 rfl|exact Ex.fieldS fld126_0 rfl) rfl ?_
    refine O.guard_t rfl rfl ?_
    refine O.ex (by first|exact Ex.loadP Try.isAgg28 rfl|exact Ex.loadR Try.isAgg28 rfl|exact Ex.loadIn1 Try.isAgg28 rfl (Holds.to (by assumption))) rfl ?_
    refine O.guard_t rfl rfl ?_
    refine O.ex (Ex.move rfl) rfl ?_
    refine O.guard_t rfl rfl ?_
    refine O.ex (by first|exact Ex.subI rfl rfl|exact Ex.sub rfl rfl rfl) rfl ?_
    refine O.guard_t rfl rfl ?_
    refine O.ex (by first|exact Ex.quoI rfl rfl|exact Ex.quo rfl rfl (by omega) rfl) rfl ?_
    rw [hqp (by omega)]
    refine O.guard_t rfl rfl ?_
    refine O.ex (by first|exact Ex.idxR Try.runUnderlying28 Try.sizeOf3 rfl rfl|exact Ex.idxIn Try.runUnderlying28 Try.sizeOf3 rfl rfl|exact Ex.idxS Try.runUnderlying28 Try.sizeOf3 rfl rfl|exact Ex.idx Try.runUnderlying28 Try.sizeOf3 rfl rfl (by omega) (by omega)) rfl ?_
    refine O.guard_t rfl rfl ?_
    refine O.ex (by first|exact Ex.loadP Try.isAgg3 rfl|exact Ex.loadR Try.isAgg3 rfl|exact Ex.loadIn1 Try.isAgg3 rfl (Holds.to (by assumption))) rfl ?_
    rw [show ta.getD (((q - 1) / 2 : Nat) : Int).toNat default = T.getD ((q - 1) / 2) default from hgt (by omega)]
    refine O.guard_t rfl rfl ?_
    refine O.callF Try.call113 rfl rfl (CT.mono (aheadI_ct (tv:=tv) (pv:=pv) (qv:=qv) (t:=ta) (pl:=pa) (pr:=pr) (by omega) (by omega) ((hpOI_open (h:=h) (tv:=tv) (pv:=pv) (qv:=qv) (t:=ta) (pl:=pa) (pr:=pr)).2 (Holds.to (by assumption)))) ?_)
    rintro _ w ⟨rfl,H⟩
    refine O.ex (Ex.pick_t rfl rfl) rfl ?_
    refine O.nil ?_
    refine hK3 _ _ _ ?_
    first|refine W.cond_p rfl (fun hah=>?_) (fun hna=>?_)|refine W.cond_b rfl (fun hah=>?_) (fun hna=>?_)
    · refine W.skip ?_
      refine hK2 _ _ _ ?_
      refine W.block ?_
      refine W.seq (fun K4 hK4=>?_)
      refine W.region ?_
      have H:=hpOI_open.1 H
      refine O.ex (Ex.move rfl) rfl ?_
      refine O.ex (Ex.move rfl) rfl ?_
      refine O.ex (by first|exact Ex.nilPtr rfl|exact Ex.nilFunc rfl|exact Ex.nilYield rfl) rfl ?_
      refine O.ex (by first|exact Ex.field0 fld126_0 rfl|exact Ex.field fld126_0 rfl|exact Ex.fieldS fld126_0 rfl) rfl ?_
      refine O.ex (by first|exact Ex.loadP Try.isAgg28 rfl|exact Ex.loadR Try.isAgg28 rfl|exact Ex.loadIn1 Try.isAgg28 rfl (Holds.to (by assumption))) rfl ?_
      refine O.ex (Ex.move rfl) rfl ?_
      refine O.ex (by first|exact Ex.subI rfl rfl|exact Ex.sub rfl rfl rfl) rfl ?_
      refine O.ex (by first|exact Ex.quoI rfl rfl|exact Ex.quo rfl rfl (by omega) rfl) rfl ?_
      rw [hqp (by omega)]
      refine O.ex (by first|exact Ex.idxR Try.runUnderlying28 Try.sizeOf3 rfl rfl|exact Ex.idxIn Try.runUnderlying28 Try.sizeOf3 rfl rfl|exact Ex.idxS Try.runUnderlying28 Try.sizeOf3 rfl rfl|exact Ex.idx Try.runUnderlying28 Try.sizeOf3 rfl rfl (by omega) (by omega)) rfl ?_
      refine O.ex (by first|exact Ex.loadP Try.isAgg3 rfl|exact Ex.loadR Try.isAgg3 rfl|exact Ex.loadIn1 Try.isAgg3 rfl (Holds.to (by assumption))) rfl ?_
      rw [show ta.getD (((q - 1) / 2 : Nat) : Int).toNat default = T.getD ((q - 1) / 2) default from hgt (by omega)]
      refine O.ex (Ex.move rfl) rfl ?_
      refine O.callF Try.call95 rfl rfl (CT.mono (layI_ct (tv:=tv) (pv:=pv) (qv:=qv) (t:=ta) (pl:=pa) (pr:=pr) (by omega) (by omega) ((hpOI_open (h:=h) (tv:=tv) (pv:=pv) (qv:=qv) (t:=ta) (pl:=pa) (pr:=pr)).2 (Holds.to (by assumption)))) ?_)
      rintro _ w ⟨-,H⟩
      refine O.nil ?_
      refine hK4 _ _ _ ?_
      refine W.region ?_
      refine O.ex (Ex.move rfl) rfl ?_
      refine O.ex (by first|exact Ex.subI rfl rfl|exact Ex.sub rfl rfl rfl) rfl ?_
      refine O.ex (by first|exact Ex.quoI rfl rfl|exact Ex.quo rfl rfl (by omega) rfl) rfl ?_
      rw [hqp (by omega)]
      refine O.ex (Ex.assign rfl) rfl ?_
      refine O.nil ?_
      have hmv:=hm.move hqq (Ne.symm (hne (by omega)))
      have hah2 : kI pr (T.getD q default) (T.getD ((q - 1) / 2) default):=by rw [hm.gp]; exact hah
      have hst:=hui.step so (by omega) hq hah2
      exact ⟨(q - 1) / 2,⟨rfl,rfl,rfl,trivial⟩,⟨rfl,_,_,_,_,hmv,hst,fun y=>(swap_mem hq hqq y).trans (hmem y),Holds.to (by assumption)⟩,by omega⟩
    · refine W.exit ?_
      refine hK1 _ _ _ ?_
      refine W.region ?_
      have H:=(hpOI_open (h:=h) (tv:=tv) (pv:=pv) (qv:=qv) (t:=ta) (pl:=pa) (pr:=pr)).2 (Holds.to (by first|exact hpOI_open.1 (Holds.to (by assumption))|assumption))
      refine O.ex (Ex.move rfl) rfl ?_
      refine O.ex (Ex.move rfl) rfl ?_
      refine O.ex (Ex.move rfl) rfl ?_
      refine O.callF Try.call95 rfl rfl (CT.mono (layI_ct (tv:=tv) (pv:=pv) (qv:=qv) (t:=ta) (pl:=pa) (pr:=pr) (by omega) (by omega) (Holds.to (by assumption))) ?_)
      rintro _ w ⟨-,H⟩
      rw [hm.done.1,hm.done.2] at H
      refine O.nil ?_
      try dsimp only [thenQ,blockQ,retQ]
      first|refine ⟨_,rfl,?_⟩|(refine retD_mark ?_; intro w H; refine ⟨_,rfl,?_⟩)|(refine retD_mark2 ?_; intro w H; refine ⟨_,rfl,?_⟩)
      refine ⟨rfl,T,PL,hm.pi,hui.done fun hq0=>?_,hmem,Holds.to (by assumption)⟩
      first
      | exact absurd hq0 (by omega)
      | (rw [hm.gp]; exact hna)
  · have hqp : 0 < q → (((q : Nat) : Int) - 1) / 2 = (((q - 1) / 2 : Nat) : Int):=by omega
    have hqq : (q - 1) / 2 < T.length:=by omega
    have hne : 0 < q → (q - 1) / 2 ≠ q:=by omega
    have hgt:=fun h0=>hm.st _ hqq (hne h0)
    have hgn:=hm.pi.lt _ hqq
    refine O.guard_f rfl rfl rfl rfl ?_
    refine O.guard_f rfl rfl rfl rfl ?_
    refine O.guard_f rfl rfl rfl rfl ?_
    refine O.guard_f rfl rfl rfl rfl ?_
    refine O.guard_f rfl rfl rfl rfl ?_
    refine O.guard_f rfl rfl rfl rfl ?_
    refine O.guard_f rfl rfl rfl rfl ?_
    refine O.guard_f rfl rfl rfl rfl ?_
    refine O.guard_f rfl rfl rfl rfl ?_
    refine O.guard_f rfl rfl rfl rfl ?_
    refine O.guard_f rfl rfl rfl rfl ?_
    refine O.guard_f rfl rfl rfl rfl ?_
    refine O.ex (Ex.pick_f rfl rfl) rfl ?_
    refine O.nil ?_
    refine hK3 _ _ _ ?_
    refine W.cond_f rfl ?_
    refine W.exit ?_
    refine hK1 _ _ _ ?_
    refine W.region ?_
    have H:=(hpOI_open (h:=h) (tv:=tv) (pv:=pv) (qv:=qv) (t:=ta) (pl:=pa) (pr:=pr)).2 (Holds.to (by first|exact hpOI_open.1 (Holds.to (by assumption))|assumption))
    refine O.ex (Ex.move rfl) rfl ?_
    refine O.ex (Ex.move rfl) rfl ?_
    refine O.ex (Ex.move rfl) rfl ?_
    refine O.callF Try.call95 rfl rfl (CT.mono (layI_ct (tv:=tv) (pv:=pv) (qv:=qv) (t:=ta) (pl:=pa) (pr:=pr) (by omega) (by omega) (Holds.to (by assumption))) ?_)
    rintro _ w ⟨-,H⟩
    rw [hm.done.1,hm.done.2] at H
    refine O.nil ?_
    try dsimp only [thenQ,blockQ,retQ]
    first|refine ⟨_,rfl,?_⟩|(refine retD_mark ?_; intro w H; refine ⟨_,rfl,?_⟩)|(refine retD_mark2 ?_; intro w H; refine ⟨_,rfl,?_⟩)
    refine ⟨rfl,T,PL,hm.pi,hui.done fun hq0=>?_,hmem,Holds.to (by assumption)⟩
    first
    | exact absurd hq0 (by omega)
    | (rw [hm.gp]; exact hna)
end Go.Proofs.Ytliofdfhimmjmaa
namespace Go.Proofs.Ytliofdfhimmjmaa
open Go.Rr Go Hp
set_option linter.unusedVariables false
set_option maxHeartbeats 1000000 in
theorem downI_ct {w : World} {h n p : Nat} {tv pv qv : Value} {t : List Nat} {pl pr : List Int} {L : List HProp} (hpi : PI n t pl) (hpr : pr.length = n) (hn : n ≤ 64) (hp : p < t.length) (hdi : DI (kI pr) t p) (H : Holds w (HpOI h tv pv qv t pl pr::L)) :
    CT Try.prog 96 [.pointer (some ⟨h,0,none⟩),.int .i64 (p : Int)] w fun u w'=>u = .tuple #[] ∧ ∃ t' pl',PI n t' pl' ∧ HI (kI pr) t' ∧ (∀ x,x ∈ t' ↔ x ∈ t) ∧ Holds w' (HpOI h tv pv qv t' pl' pr::L):=by
  obtain ⟨x,hx⟩ : ∃ x,x = t.getD p default:=⟨_,rfl⟩
  have hmid:=Mid.start hpi hp
  rw [← hx] at hmid
  have htn:=hpi.len_le
  have so:=so_key soI fun x=>pr.getD x default
  have H:=hpOI_open.1 H
  refine CT.enter (N:=78) Try.func96 rfl rfl rfl rfl ?_
  refine W.seq (fun K0 hK0=>?_)
  refine W.region ?_
  refine O.ex (Ex.move rfl) rfl ?_
  refine O.ex (by first|exact Ex.nilPtr rfl|exact Ex.nilFunc rfl|exact Ex.nilYield rfl) rfl ?_
  refine O.ex (by first|exact Ex.field0 fld126_0 rfl|exact Ex.field fld126_0 rfl|exact Ex.fieldS fld126_0 rfl) rfl ?_
  refine O.ex (by first|exact Ex.loadP Try.isAgg28 rfl|exact Ex.loadR Try.isAgg28 rfl|exact Ex.loadIn1 Try.isAgg28 rfl (Holds.to (by assumption))) rfl ?_
  refine O.ex (Ex.move rfl) rfl ?_
  refine O.ex (by first|exact Ex.idxR Try.runUnderlying28 Try.sizeOf3 rfl rfl|exact Ex.idxIn Try.runUnderlying28 Try.sizeOf3 rfl rfl|exact Ex.idxS Try.runUnderlying28 Try.sizeOf3 rfl rfl|exact Ex.idx Try.runUnderlying28 Try.sizeOf3 rfl rfl (by omega) (by omega)) rfl ?_
  refine O.ex (by first|exact Ex.loadP Try.isAgg3 rfl|exact Ex.loadR Try.isAgg3 rfl|exact Ex.loadIn1 Try.isAgg3 rfl (Holds.to (by assumption))) rfl ?_
  rw [show t.getD ((p : Nat) : Int).toNat default = x from hx.symm]
  refine O.ex (Ex.assign rfl) rfl ?_
  refine O.nil ?_
  refine hK0 _ _ _ ?_
  refine W.seq (fun K1 hK1=>?_)
  refine W.block ?_
  have H:=(hpOI_open (h:=h) (tv:=tv) (pv:=pv) (qv:=qv) (t:=t) (pl:=pl) (pr:=pr)).2 (Holds.to (by assumption))
  refine W.loop (σ:=Nat) (fun q=>[(0,.pointer (some ⟨h,0,none⟩)),(1,.int .i64 (q : Int)),(4,.int .i64 (x : Int))]) (fun q ds w=>ds = [] ∧ ∃ T PL ta pa,Mid n T PL ta pa q x ∧ DI (kI pr) T q ∧ (∀ y,y ∈ T ↔ y ∈ t) ∧ Holds w (HpOI h tv pv qv ta pa pr::L)) (fun q : Nat=>64 - q) p ⟨rfl,rfl,rfl,trivial⟩ ⟨rfl,t,pl,t,pl,hmid,hdi,fun _=>Iff.rfl,Holds.to (by assumption)⟩ ?_
  clear H hmid hdi
  rintro q _ w ⟨rfl,T,PL,ta,pa,hm,hdi,hmem,H⟩
  have hq:=hm.lp
  have hTn:=hm.pi.len_le
  have hxn:=hm.xn
  have hla:=hm.la
  have hlt:=hm.lt
  have H:=hpOI_open.1 H
  refine W.block ?_
  refine W.seq (fun K2 hK2=>?_)
  refine W.region ?_
  refine O.ex (Ex.move rfl) rfl ?_
  refine O.ex (by first|exact Ex.mul rfl rfl (IntWalk.i64_in _ ⟨by omega,by omega⟩)|exact Ex.mul rfl rfl rfl) rfl ?_
  refine O.ex (by first|exact Ex.addI rfl rfl|exact Ex.add rfl rfl rfl) rfl ?_
  refine O.ex (Ex.assign rfl) rfl ?_
  refine O.nil ?_
  refine hK2 _ _ _ ?_
  refine W.seq (fun K3 hK3=>?_)
  refine W.seq (fun K4 hK4=>?_)
  refine W.region ?_
  refine O.ex (Ex.move rfl) rfl ?_
  refine O.ex (Ex.move rfl) rfl ?_
  refine O.ex (by first|exact Ex.nilPtr rfl|exact Ex.nilFunc rfl|exact Ex.nilYield rfl) rfl ?_
  refine O.ex (by first|exact Ex.field0 fld126_0 rfl|exact Ex.field fld126_0 rfl|exact Ex.fieldS fld126_0 rfl) rfl ?_
  refine O.ex (by first|exact Ex.loadP Try.isAgg28 rfl|exact Ex.loadR Try.isAgg28 rfl|exact Ex.loadIn1 Try.isAgg28 rfl (Holds.to (by assumption))) rfl ?_
  refine O.ex (by first|exact Ex.lenR Try.runUnderlying28 rfl|exact Ex.lenIn Try.runUnderlying28 rfl|exact Ex.lenL Try.runUnderlying28 rfl|exact Ex.len rfl Try.runUnderlying28 rfl) rfl ?_
  refine O.ex (Ex.geq rfl rfl) rfl ?_
  refine O.nil ?_
  refine hK4 _ _ _ ?_
  first|refine W.cond_p rfl (fun hend=>?_) (fun hmore=>?_)|refine W.cond_b rfl (fun hend=>?_) (fun hmore=>?_)
  · refine W.exit ?_
    refine hK1 _ _ _ ?_
    refine W.region ?_
    have H:=(hpOI_open (h:=h) (tv:=tv) (pv:=pv) (qv:=qv) (t:=ta) (pl:=pa) (pr:=pr)).2 (Holds.to (by first|exact hpOI_open.1 (Holds.to (by assumption))|assumption))
    refine O.ex (Ex.move rfl) rfl ?_
    refine O.ex (Ex.move rfl) rfl ?_
    refine O.ex (Ex.move rfl) rfl ?_
    refine O.callF Try.call95 rfl rfl (CT.mono (layI_ct (tv:=tv) (pv:=pv) (qv:=qv) (t:=ta) (pl:=pa) (pr:=pr) (by omega) (by omega) (Holds.to (by assumption))) ?_)
    rintro _ w ⟨-,H⟩
    rw [hm.done.1,hm.done.2] at H
    refine O.nil ?_
    try dsimp only [thenQ,blockQ,retQ]
    first|refine ⟨_,rfl,?_⟩|(refine retD_mark ?_; intro w H; refine ⟨_,rfl,?_⟩)|(refine retD_mark2 ?_; intro w H; refine ⟨_,rfl,?_⟩)
    refine ⟨rfl,T,PL,hm.pi,hdi.done fun i h0 h1 h2=>?_,hmem,Holds.to (by assumption)⟩
    first
    | exact so.le_tr (by rw [hm.gp]; exact hstop) (hmin i h0 h1 h2)
    | exact absurd h1 (by omega)
  · refine W.skip ?_
    refine hK3 _ _ _ ?_
    refine W.seq (fun K5 hK5=>?_)
    refine W.seq (fun K6 hK6=>?_)
    have hc1 : 2 * q + 1 < T.length:=by omega
    have hca : (2 * (q : Int) + 1).toNat = 2 * q + 1:=by omega
    have hcb : (2 * (q : Int) + 1 + 1).toNat = 2 * q + 2:=by omega
    have g1 : ta.getD (2 * (q : Int) + 1).toNat default = T.getD (2 * q + 1) default:=by rw [hca]; exact hm.st _ hc1 (by omega)
    have n1 : ta.getD (2 * (q : Int) + 1).toNat default < pr.length:=by rw [g1,hpr]; exact hm.pi.lt _ hc1
    have g2 : 2 * q + 2 < T.length → ta.getD (2 * (q : Int) + 1 + 1).toNat default = T.getD (2 * q + 2) default:=fun hc2=>by rw [hcb]; exact hm.st _ hc2 (by omega)
    have n2 : 2 * q + 2 < T.length → ta.getD (2 * (q : Int) + 1 + 1).toNat default < pr.length:=fun hc2=>by rw [g2 hc2,hpr]; exact hm.pi.lt _ hc2
    have s1:=arr_sl (e:=eN) (v:=tv) (xs:=ta) (Holds.to (by assumption)) (by omega)
    refine W.drawTo _ (.take 0 (.take 1 (.take 2 (.take 3 (.take 4 (.take 5 (.take 6 (.take 7 (.take 8 (.take 9 (.take 10 (.take 11 (.take 12 (.take 13 (.take 14 (.take 15 (.take 16 (.take 17 (.take 18 (.take 19 (.take 20 (.take 21 (.take 22 (.take 23 (.take 24 (.one 25 (.take 26 .nil))))))))))))))))))))))))))) (mixed) (fun _ _ _ _ h=>h) (by assumption) (PP.refl _) (by decide +kernel) (fun w H=>?_)
    refine OQ.ex rfl (fun w H=>(Ex.move rfl)) rfl ?_
    refine OQ.ex rfl (fun w H=>(by first|exact Ex.addI rfl rfl|exact Ex.add rfl rfl rfl)) rfl ?_
    refine OQ.ex rfl (fun w H=>(Ex.move rfl)) rfl ?_
    refine OQ.ex rfl (fun w H=>(by first|exact Ex.nilPtr rfl|exact Ex.nilFunc rfl|exact Ex.nilYield rfl)) rfl ?_
    refine OQ.ex rfl (fun w H=>(by first|exact Ex.field0 fld126_0 rfl|exact Ex.field fld126_0 rfl|exact Ex.fieldS fld126_0 rfl)) rfl ?_
    refine OQ.ex rfl (fun w H=>(by first|exact Ex.loadP Try.isAgg28 rfl|exact Ex.loadR Try.isAgg28 rfl|exact Ex.loadIn1 Try.isAgg28 rfl (Holds.to (by assumption)))) rfl ?_
    refine OQ.ex rfl (fun w H=>(by first|exact Ex.lenR Try.runUnderlying28 rfl|exact Ex.lenIn Try.runUnderlying28 rfl|exact Ex.lenL Try.runUnderlying28 rfl|exact Ex.len rfl Try.runUnderlying28 rfl)) rfl ?_
    refine OQ.ex rfl (fun w H=>(Ex.lss rfl rfl)) rfl ?_
    refine OQ.ex rfl (fun w H=>(Ex.move rfl)) rfl ?_
    first|refine OQ.split_p (t:=31) rfl (fun htwo=>?_) (fun hone=>?_)|refine OQ.split (t:=31) rfl (fun htwo=>?_) (fun hone=>?_)
    · refine OQ.exT rfl rfl rfl (fun w H=>(Ex.move rfl)) rfl ?_
      refine OQ.exT rfl rfl rfl (fun w H=>(Ex.move rfl)) rfl ?_
      refine OQ.exT rfl rfl rfl (fun w H=>(by first|exact Ex.nilPtr rfl|exact Ex.nilFunc rfl|exact Ex.nilYield rfl)) rfl ?_
      refine OQ.exT rfl rfl rfl (fun w H=>(by first|exact Ex.field0 fld126_0 rfl|exact Ex.field fld126_0 rfl|exact Ex.fieldS fld126_0 rfl)) rfl ?_
      refine OQ.exT rfl rfl rfl (fun w H=>(by first|exact Ex.loadP Try.isAgg28 rfl|exact Ex.loadR Try.isAgg28 rfl|exact Ex.loadIn1 Try.isAgg28 rfl (Holds.to (by assumption)))) rfl ?_
      refine OQ.exT rfl rfl rfl (fun w H=>(Ex.move rfl)) rfl ?_
      refine OQ.exT rfl rfl rfl (fun w H=>(by first|exact Ex.addI rfl rfl|exact Ex.add rfl rfl rfl)) rfl ?_
      refine OQ.exT rfl rfl rfl (fun w H=>(by first|exact Ex.idxR Try.runUnderlying28 Try.sizeOf3 rfl rfl|exact Ex.idxIn Try.runUnderlying28 Try.sizeOf3 rfl rfl|exact Ex.idxS Try.runUnderlying28 Try.sizeOf3 rfl rfl|exact Ex.idx Try.runUnderlying28 Try.sizeOf3 rfl rfl (by omega) (by omega))) rfl ?_
      refine OQ.exT rfl rfl rfl (fun w H=>(by first|exact Ex.loadP Try.isAgg3 rfl|exact Ex.loadR Try.isAgg3 rfl|exact Ex.loadIn1 Try.isAgg3 rfl (Holds.to (by assumption)))) rfl ?_
      refine OQ.exT rfl rfl rfl (fun w H=>(Ex.move rfl)) rfl ?_
      refine OQ.exT rfl rfl rfl (fun w H=>(by first|exact Ex.nilPtr rfl|exact Ex.nilFunc rfl|exact Ex.nilYield rfl)) rfl ?_
      refine OQ.exT rfl rfl rfl (fun w H=>(by first|exact Ex.field0 fld126_0 rfl|exact Ex.field fld126_0 rfl|exact Ex.fieldS fld126_0 rfl)) rfl ?_
      refine OQ.exT rfl rfl rfl (fun w H=>(by first|exact Ex.loadP Try.isAgg28 rfl|exact Ex.loadR Try.isAgg28 rfl|exact Ex.loadIn1 Try.isAgg28 rfl (Holds.to (by assumption)))) rfl ?_
      refine OQ.exT rfl rfl rfl (fun w H=>(Ex.move rfl)) rfl ?_
      refine OQ.exT rfl rfl rfl (fun w H=>(by first|exact Ex.idxR Try.runUnderlying28 Try.sizeOf3 rfl rfl|exact Ex.idxIn Try.runUnderlying28 Try.sizeOf3 rfl rfl|exact Ex.idxS Try.runUnderlying28 Try.sizeOf3 rfl rfl|exact Ex.idx Try.runUnderlying28 Try.sizeOf3 rfl rfl (by omega) (by omega))) rfl ?_
      refine OQ.exT rfl rfl rfl (fun w H=>(by first|exact Ex.loadP Try.isAgg3 rfl|exact Ex.loadR Try.isAgg3 rfl|exact Ex.loadIn1 Try.isAgg3 rfl (Holds.to (by assumption)))) rfl ?_
      refine OQ.step rfl ?_
      refine O.guard_t rfl rfl ?_
      refine O.callF Try.call113 rfl rfl (CT.mono (aheadI_ct (tv:=tv) (pv:=pv) (qv:=qv) (t:=ta) (pl:=pa) (pr:=pr) (n2 (by omega)) n1 ((hpOI_open (h:=h) (tv:=tv) (pv:=pv) (qv:=qv) (t:=ta) (pl:=pa) (pr:=pr)).2 (Holds.to (by assumption)))) ?_)
      rintro _ w ⟨rfl,H⟩
      have H:=hpOI_open.1 H
      refine O.thenNil ⟨(by first|exact Holds.to (by assumption)|assumption),?_⟩
      refine OQ.ex rfl (fun w H=>(Ex.pick_t rfl rfl)) rfl ?_
      refine OQ.done ?_
      refine hK6 _ _ _ ?_
      first|refine W.cond_p rfl (fun hah=>?_) (fun hna=>?_)|refine W.cond_b rfl (fun hah=>?_) (fun hna=>?_)
      · refine W.region ?_
        have hc2 : 2 * q + 2 < T.length:=by omega
        rw [g1,g2 hc2] at hah
        have hmin : ∀ i,0 < i → i < T.length → (i - 1) / 2 = q → ¬ kI pr (T.getD i default) (T.getD (2 * q + 2) default):=fun i h0 h1 h2=>by
          obtain rfl|rfl : i = 2 * q + 1 ∨ i = 2 * q + 2:=by omega
          · exact so.asy hah
          · exact so.irr _
        have hval : 2 * (q : Int) + 1 + 1 = ((2 * q + 2 : Nat) : Int):=by omega
        have hcT : 2 * q + 2 < T.length:=hc2
        have hcp : (2 * q + 2 - 1) / 2 = q:=by omega
        have hc0 : 0 < 2 * q + 2:=by omega
        obtain ⟨c,hcd⟩ : ∃ c,c = 2 * q + 2:=⟨_,rfl⟩
        rw [← hcd] at hmin hval hcT hcp hc0
        refine O.ex (Ex.move rfl) rfl ?_
        refine O.ex (by first|exact Ex.addI rfl rfl|exact Ex.add rfl rfl rfl) rfl ?_
        refine O.ex (Ex.assign rfl) rfl ?_
        rw [hval]
        refine O.nil ?_
        refine hK5 _ _ _ ?_
        refine W.seq (fun K7 hK7=>?_)
        refine W.seq (fun K8 hK8=>?_)
        refine W.region ?_
        first
        | have hdone : 0 < c:=hc0
        | (have hmin : ∀ i,0 < i → i < T.length → (i - 1) / 2 = q → ¬ kI pr (T.getD i default) (T.getD (2 * q + 1) default):=fun i h0 h1 h2=>by
             by_cases e : i = 2 * q + 1
             · subst e; exact so.irr _
             · obtain rfl : i = 2 * q + 2:=by omega
               first
               | (rw [g1,g2 h1] at hna; exact hna)
               | exact absurd h1 (by omega)
           have hval : 2 * (q : Int) + 1 = ((2 * q + 1 : Nat) : Int):=by omega
           have hcT : 2 * q + 1 < T.length:=hc1
           have hcp : (2 * q + 1 - 1) / 2 = q:=by omega
           have hc0 : 0 < 2 * q + 1:=by omega
           rw [hval]
           revert hmin hcT hcp hc0
           generalize 2 * q + 1 = c
           intro hmin hcT hcp hc0
           have hdone : 0 < c:=hc0)
        have hcq : c ≠ q:=by omega
        have hgc:=hm.st c hcT hcq
        have hcn:=hm.pi.lt c hcT
        have hci : (0 : Int) ≤ (c : Int):=by omega
        refine O.ex (Ex.move rfl) rfl ?_
        refine O.ex (Ex.move rfl) rfl ?_
        refine O.ex (by first|exact Ex.nilPtr rfl|exact Ex.nilFunc rfl|exact Ex.nilYield rfl) rfl ?_
        refine O.ex (by first|exact Ex.field0 fld126_0 rfl|exact Ex.field fld126_0 rfl|exact Ex.fieldS fld126_0 rfl) rfl ?_
        refine O.ex (by first|exact Ex.loadP Try.isAgg28 rfl|exact Ex.loadR Try.isAgg28 rfl|exact Ex.loadIn1 Try.isAgg28 rfl (Holds.to (by assumption))) rfl ?_
        refine O.ex (Ex.move rfl) rfl ?_
        refine O.ex (by first|exact Ex.idxR Try.runUnderlying28 Try.sizeOf3 rfl rfl|exact Ex.idxIn Try.runUnderlying28 Try.sizeOf3 rfl rfl|exact Ex.idxS Try.runUnderlying28 Try.sizeOf3 rfl rfl|exact Ex.idx Try.runUnderlying28 Try.sizeOf3 rfl rfl (by omega) (by omega)) rfl ?_
        refine O.ex (by first|exact Ex.loadP Try.isAgg3 rfl|exact Ex.loadR Try.isAgg3 rfl|exact Ex.loadIn1 Try.isAgg3 rfl (Holds.to (by assumption))) rfl ?_
        rw [show ta.getD ((c : Nat) : Int).toNat default = T.getD c default from hgc]
        refine O.ex (Ex.move rfl) rfl ?_
        refine O.callF Try.call113 rfl rfl (CT.mono (aheadI_ct (tv:=tv) (pv:=pv) (qv:=qv) (t:=ta) (pl:=pa) (pr:=pr) (by omega) (by omega) ((hpOI_open (h:=h) (tv:=tv) (pv:=pv) (qv:=qv) (t:=ta) (pl:=pa) (pr:=pr)).2 (Holds.to (by assumption)))) ?_)
        rintro _ w ⟨rfl,H⟩
        have H:=hpOI_open.1 H
        refine O.ex (by first|exact Ex.notD rfl|exact Ex.not rfl) rfl ?_
        refine O.nil ?_
        refine hK8 _ _ _ ?_
        first|refine W.cond_p rfl (fun hstop=>?_) (fun hgo=>?_)|refine W.cond_b rfl (fun hstop=>?_) (fun hgo=>?_)
        · refine W.exit ?_
          refine hK1 _ _ _ ?_
          refine W.region ?_
          have H:=(hpOI_open (h:=h) (tv:=tv) (pv:=pv) (qv:=qv) (t:=ta) (pl:=pa) (pr:=pr)).2 (Holds.to (by first|exact hpOI_open.1 (Holds.to (by assumption))|assumption))
          refine O.ex (Ex.move rfl) rfl ?_
          refine O.ex (Ex.move rfl) rfl ?_
          refine O.ex (Ex.move rfl) rfl ?_
          refine O.callF Try.call95 rfl rfl (CT.mono (layI_ct (tv:=tv) (pv:=pv) (qv:=qv) (t:=ta) (pl:=pa) (pr:=pr) (by omega) (by omega) (Holds.to (by assumption))) ?_)
          rintro _ w ⟨-,H⟩
          rw [hm.done.1,hm.done.2] at H
          refine O.nil ?_
          try dsimp only [thenQ,blockQ,retQ]
          first|refine ⟨_,rfl,?_⟩|(refine retD_mark ?_; intro w H; refine ⟨_,rfl,?_⟩)|(refine retD_mark2 ?_; intro w H; refine ⟨_,rfl,?_⟩)
          refine ⟨rfl,T,PL,hm.pi,hdi.done fun i h0 h1 h2=>?_,hmem,Holds.to (by assumption)⟩
          first
          | exact so.le_tr (by rw [hm.gp]; exact hstop) (hmin i h0 h1 h2)
          | exact absurd h1 (by omega)
        · refine W.skip ?_
          refine hK7 _ _ _ ?_
          refine W.seq (fun K9 hK9=>?_)
          refine W.region ?_
          refine O.ex (Ex.move rfl) rfl ?_
          refine O.ex (Ex.move rfl) rfl ?_
          refine O.ex (by first|exact Ex.nilPtr rfl|exact Ex.nilFunc rfl|exact Ex.nilYield rfl) rfl ?_
          refine O.ex (by first|exact Ex.field0 fld126_0 rfl|exact Ex.field fld126_0 rfl|exact Ex.fieldS fld126_0 rfl) rfl ?_
          refine O.ex (by first|exact Ex.loadP Try.isAgg28 rfl|exact Ex.loadR Try.isAgg28 rfl|exact Ex.loadIn1 Try.isAgg28 rfl (Holds.to (by assumption))) rfl ?_
          refine O.ex (Ex.move rfl) rfl ?_
          refine O.ex (by first|exact Ex.idxR Try.runUnderlying28 Try.sizeOf3 rfl rfl|exact Ex.idxIn Try.runUnderlying28 Try.sizeOf3 rfl rfl|exact Ex.idxS Try.runUnderlying28 Try.sizeOf3 rfl rfl|exact Ex.idx Try.runUnderlying28 Try.sizeOf3 rfl rfl (by omega) (by omega)) rfl ?_
          refine O.ex (by first|exact Ex.loadP Try.isAgg3 rfl|exact Ex.loadR Try.isAgg3 rfl|exact Ex.loadIn1 Try.isAgg3 rfl (Holds.to (by assumption))) rfl ?_
          rw [show ta.getD ((c : Nat) : Int).toNat default = T.getD c default from hgc]
          refine O.ex (Ex.move rfl) rfl ?_
          refine O.callF Try.call95 rfl rfl (CT.mono (layI_ct (tv:=tv) (pv:=pv) (qv:=qv) (t:=ta) (pl:=pa) (pr:=pr) (by omega) (by omega) ((hpOI_open (h:=h) (tv:=tv) (pv:=pv) (qv:=qv) (t:=ta) (pl:=pa) (pr:=pr)).2 (Holds.to (by assumption)))) ?_)
          rintro _ w ⟨-,H⟩
          refine O.nil ?_
          refine hK9 _ _ _ ?_
          refine W.region ?_
          refine O.ex (Ex.move rfl) rfl ?_
          refine O.ex (Ex.assign rfl) rfl ?_
          refine O.nil ?_
          have hmv:=hm.move hcT (Ne.symm hcq)
          have hah2 : kI pr (T.getD c default) (T.getD q default):=by rw [hm.gp]; exact Decidable.not_not.1 hgo
          have hst:=hdi.step so hc0 hcT hcp hah2 hmin
          exact ⟨c,⟨rfl,rfl,rfl,trivial⟩,⟨rfl,_,_,_,_,hmv,hst,fun y=>(swap_mem hq hcT y).trans (hmem y),Holds.to (by assumption)⟩,by omega⟩
      · refine W.skip ?_
        refine hK5 _ _ _ ?_
        refine W.seq (fun K10 hK10=>?_)
        refine W.seq (fun K11 hK11=>?_)
        refine W.region ?_
        first
        | have hdone : 0 < c:=hc0
        | (have hmin : ∀ i,0 < i → i < T.length → (i - 1) / 2 = q → ¬ kI pr (T.getD i default) (T.getD (2 * q + 1) default):=fun i h0 h1 h2=>by
             by_cases e : i = 2 * q + 1
             · subst e; exact so.irr _
             · obtain rfl : i = 2 * q + 2:=by omega
               first
               | (rw [g1,g2 h1] at hna; exact hna)
               | exact absurd h1 (by omega)
           have hval : 2 * (q : Int) + 1 = ((2 * q + 1 : Nat) : Int):=by omega
           have hcT : 2 * q + 1 < T.length:=hc1
           have hcp : (2 * q + 1 - 1) / 2 = q:=by omega
           have hc0 : 0 < 2 * q + 1:=by omega
           rw [hval]
           revert hmin hcT hcp hc0
           generalize 2 * q + 1 = c
           intro hmin hcT hcp hc0
           have hdone : 0 < c:=hc0)
        have hcq : c ≠ q:=by omega
        have hgc:=hm.st c hcT hcq
        have hcn:=hm.pi.lt c hcT
        have hci : (0 : Int) ≤ (c : Int):=by omega
        refine O.ex (Ex.move rfl) rfl ?_
        refine O.ex (Ex.move rfl) rfl ?_
        refine O.ex (by first|exact Ex.nilPtr rfl|exact Ex.nilFunc rfl|exact Ex.nilYield rfl) rfl ?_
        refine O.ex (by first|exact Ex.field0 fld126_0 rfl|exact Ex.field fld126_0 rfl|exact Ex.fieldS fld126_0 rfl) rfl ?_
        refine O.ex (by first|exact Ex.loadP Try.isAgg28 rfl|exact Ex.loadR Try.isAgg28 rfl|exact Ex.loadIn1 Try.isAgg28 rfl (Holds.to (by assumption))) rfl ?_
        refine O.ex (Ex.move rfl) rfl ?_
        refine O.ex (by first|exact Ex.idxR Try.runUnderlying28 Try.sizeOf3 rfl rfl|exact Ex.idxIn Try.runUnderlying28 Try.sizeOf3 rfl rfl|exact Ex.idxS Try.runUnderlying28 Try.sizeOf3 rfl rfl|exact Ex.idx Try.runUnderlying28 Try.sizeOf3 rfl rfl (by omega) (by omega)) rfl ?_
        refine O.ex (by first|exact Ex.loadP Try.isAgg3 rfl|exact Ex.loadR Try.isAgg3 rfl|exact Ex.loadIn1 Try.isAgg3 rfl (Holds.to (by assumption))) rfl ?_
        rw [show ta.getD ((c : Nat) : Int).toNat default = T.getD c default from hgc]
        refine O.ex (Ex.move rfl) rfl ?_
        refine O.callF Try.call113 rfl rfl (CT.mono (aheadI_ct (tv:=tv) (pv:=pv) (qv:=qv) (t:=ta) (pl:=pa) (pr:=pr) (by omega) (by omega) ((hpOI_open (h:=h) (tv:=tv) (pv:=pv) (qv:=qv) (t:=ta) (pl:=pa) (pr:=pr)).2 (Holds.to (by assumption)))) ?_)
        rintro _ w ⟨rfl,H⟩
        have H:=hpOI_open.1 H
        refine O.ex (by first|exact Ex.notD rfl|exact Ex.not rfl) rfl ?_
        refine O.nil ?_
        refine hK11 _ _ _ ?_
        first|refine W.cond_p rfl (fun hstop=>?_) (fun hgo=>?_)|refine W.cond_b rfl (fun hstop=>?_) (fun hgo=>?_)
        · refine W.exit ?_
          refine hK1 _ _ _ ?_
          refine W.region ?_
          have H:=(hpOI_open (h:=h) (tv:=tv) (pv:=pv) (qv:=qv) (t:=ta) (pl:=pa) (pr:=pr)).2 (Holds.to (by first|exact hpOI_open.1 (Holds.to (by assumption))|assumption))
          refine O.ex (Ex.move rfl) rfl ?_
          refine O.ex (Ex.move rfl) rfl ?_
          refine O.ex (Ex.move rfl) rfl ?_
          refine O.callF Try.call95 rfl rfl (CT.mono (layI_ct (tv:=tv) (pv:=pv) (qv:=qv) (t:=ta) (pl:=pa) (pr:=pr) (by omega) (by omega) (Holds.to (by assumption))) ?_)
          rintro _ w ⟨-,H⟩
          rw [hm.done.1,hm.done.2] at H
          refine O.nil ?_
          try dsimp only [thenQ,blockQ,retQ]
          first|refine ⟨_,rfl,?_⟩|(refine retD_mark ?_; intro w H; refine ⟨_,rfl,?_⟩)|(refine retD_mark2 ?_; intro w H; refine ⟨_,rfl,?_⟩)
          refine ⟨rfl,T,PL,hm.pi,hdi.done fun i h0 h1 h2=>?_,hmem,Holds.to (by assumption)⟩
          first
          | exact so.le_tr (by rw [hm.gp]; exact hstop) (hmin i h0 h1 h2)
          | exact absurd h1 (by omega)
        · refine W.skip ?_
          refine hK10 _ _ _ ?_
          refine W.seq (fun K12 hK12=>?_)
          refine W.region ?_
          refine O.ex (Ex.move rfl) rfl ?_
          refine O.ex (Ex.move rfl) rfl ?_
          refine O.ex (by first|exact Ex.nilPtr rfl|exact Ex.nilFunc rfl|exact Ex.nilYield rfl) rfl ?_
          refine O.ex (by first|exact Ex.field0 fld126_0 rfl|exact Ex.field fld126_0 rfl|exact Ex.fieldS fld126_0 rfl) rfl ?_
          refine O.ex (by first|exact Ex.loadP Try.isAgg28 rfl|exact Ex.loadR Try.isAgg28 rfl|exact Ex.loadIn1 Try.isAgg28 rfl (Holds.to (by assumption))) rfl ?_
          refine O.ex (Ex.move rfl) rfl ?_
          refine O.ex (by first|exact Ex.idxR Try.runUnderlying28 Try.sizeOf3 rfl rfl|exact Ex.idxIn Try.runUnderlying28 Try.sizeOf3 rfl rfl|exact Ex.idxS Try.runUnderlying28 Try.sizeOf3 rfl rfl|exact Ex.idx Try.runUnderlying28 Try.sizeOf3 rfl rfl (by omega) (by omega)) rfl ?_
          refine O.ex (by first|exact Ex.loadP Try.isAgg3 rfl|exact Ex.loadR Try.isAgg3 rfl|exact Ex.loadIn1 Try.isAgg3 rfl (Holds.to (by assumption))) rfl ?_
          rw [show ta.getD ((c : Nat) : Int).toNat default = T.getD c default from hgc]
          refine O.ex (Ex.move rfl) rfl ?_
          refine O.callF Try.call95 rfl rfl (CT.mono (layI_ct (tv:=tv) (pv:=pv) (qv:=qv) (t:=ta) (pl:=pa) (pr:=pr) (by omega) (by omega) ((hpOI_open (h:=h) (tv:=tv) (pv:=pv) (qv:=qv) (t:=ta) (pl:=pa) (pr:=pr)).2 (Holds.to (by assumption)))) ?_)
          rintro _ w ⟨-,H⟩
          refine O.nil ?_
          refine hK12 _ _ _ ?_
          refine W.region ?_
          refine O.ex (Ex.move rfl) rfl ?_
          refine O.ex (Ex.assign rfl) rfl ?_
          refine O.nil ?_
          have hmv:=hm.move hcT (Ne.symm hcq)
          have hah2 : kI pr (T.getD c default) (T.getD q default):=by rw [hm.gp]; exact Decidable.not_not.1 hgo
          have hst:=hdi.step so hc0 hcT hcp hah2 hmin
          exact ⟨c,⟨rfl,rfl,rfl,trivial⟩,⟨rfl,_,_,_,_,hmv,hst,fun y=>(swap_mem hq hcT y).trans (hmem y),Holds.to (by assumption)⟩,by omega⟩
    · refine OQ.exF rfl rfl rfl rfl rfl ?_
      refine OQ.exF rfl rfl rfl rfl rfl ?_
      refine OQ.exF rfl rfl rfl rfl rfl ?_
      refine OQ.exF rfl rfl rfl rfl rfl ?_
      refine OQ.exF rfl rfl rfl rfl rfl ?_
      refine OQ.exF rfl rfl rfl rfl rfl ?_
      refine OQ.exF rfl rfl rfl rfl rfl ?_
      refine OQ.exF rfl rfl rfl rfl rfl ?_
      refine OQ.exF rfl rfl rfl rfl rfl ?_
      refine OQ.exF rfl rfl rfl rfl rfl ?_
      refine OQ.exF rfl rfl rfl rfl rfl ?_
      refine OQ.exF rfl rfl rfl rfl rfl ?_
      refine OQ.exF rfl rfl rfl rfl rfl ?_
      refine OQ.exF rfl rfl rfl rfl rfl ?_
      refine OQ.exF rfl rfl rfl rfl rfl ?_
      refine OQ.exF rfl rfl rfl rfl rfl ?_
      refine OQ.step rfl ?_
      refine O.guard_f rfl rfl rfl rfl ?_
      refine O.thenNil ⟨(by first|exact Holds.to (by assumption)|assumption),?_⟩
      refine OQ.ex rfl (fun w H=>(Ex.pick_f rfl rfl)) rfl ?_
      refine OQ.done ?_
      refine hK6 _ _ _ ?_
      refine W.cond_f rfl ?_
      refine W.skip ?_
      refine hK5 _ _ _ ?_
      refine W.seq (fun K13 hK13=>?_)
      refine W.seq (fun K14 hK14=>?_)
      refine W.region ?_
      first
      | have hdone : 0 < c:=hc0
      | (have hmin : ∀ i,0 < i → i < T.length → (i - 1) / 2 = q → ¬ kI pr (T.getD i default) (T.getD (2 * q + 1) default):=fun i h0 h1 h2=>by
           by_cases e : i = 2 * q + 1
           · subst e; exact so.irr _
           · obtain rfl : i = 2 * q + 2:=by omega
             first
             | (rw [g1,g2 h1] at hna; exact hna)
             | exact absurd h1 (by omega)
         have hval : 2 * (q : Int) + 1 = ((2 * q + 1 : Nat) : Int):=by omega
         have hcT : 2 * q + 1 < T.length:=hc1
         have hcp : (2 * q + 1 - 1) / 2 = q:=by omega
         have hc0 : 0 < 2 * q + 1:=by omega
         rw [hval]
         revert hmin hcT hcp hc0
         generalize 2 * q + 1 = c
         intro hmin hcT hcp hc0
         have hdone : 0 < c:=hc0)
      have hcq : c ≠ q:=by omega
      have hgc:=hm.st c hcT hcq
      have hcn:=hm.pi.lt c hcT
      have hci : (0 : Int) ≤ (c : Int):=by omega
      refine O.ex (Ex.move rfl) rfl ?_
      refine O.ex (Ex.move rfl) rfl ?_
      refine O.ex (by first|exact Ex.nilPtr rfl|exact Ex.nilFunc rfl|exact Ex.nilYield rfl) rfl ?_
      refine O.ex (by first|exact Ex.field0 fld126_0 rfl|exact Ex.field fld126_0 rfl|exact Ex.fieldS fld126_0 rfl) rfl ?_
      refine O.ex (by first|exact Ex.loadP Try.isAgg28 rfl|exact Ex.loadR Try.isAgg28 rfl|exact Ex.loadIn1 Try.isAgg28 rfl (Holds.to (by assumption))) rfl ?_
      refine O.ex (Ex.move rfl) rfl ?_
      refine O.ex (by first|exact Ex.idxR Try.runUnderlying28 Try.sizeOf3 rfl rfl|exact Ex.idxIn Try.runUnderlying28 Try.sizeOf3 rfl rfl|exact Ex.idxS Try.runUnderlying28 Try.sizeOf3 rfl rfl|exact Ex.idx Try.runUnderlying28 Try.sizeOf3 rfl rfl (by omega) (by omega)) rfl ?_
      refine O.ex (by first|exact Ex.loadP Try.isAgg3 rfl|exact Ex.loadR Try.isAgg3 rfl|exact Ex.loadIn1 Try.isAgg3 rfl (Holds.to (by assumption))) rfl ?_
      rw [show ta.getD ((c : Nat) : Int).toNat default = T.getD c default from hgc]
      refine O.ex (Ex.move rfl) rfl ?_
      refine O.callF Try.call113 rfl rfl (CT.mono (aheadI_ct (tv:=tv) (pv:=pv) (qv:=qv) (t:=ta) (pl:=pa) (pr:=pr) (by omega) (by omega) ((hpOI_open (h:=h) (tv:=tv) (pv:=pv) (qv:=qv) (t:=ta) (pl:=pa) (pr:=pr)).2 (Holds.to (by assumption)))) ?_)
      rintro _ w ⟨rfl,H⟩
      have H:=hpOI_open.1 H
      refine O.ex (by first|exact Ex.notD rfl|exact Ex.not rfl) rfl ?_
      refine O.nil ?_
      refine hK14 _ _ _ ?_
      first|refine W.cond_p rfl (fun hstop=>?_) (fun hgo=>?_)|refine W.cond_b rfl (fun hstop=>?_) (fun hgo=>?_)
      · refine W.exit ?_
        refine hK1 _ _ _ ?_
        refine W.region ?_
        have H:=(hpOI_open (h:=h) (tv:=tv) (pv:=pv) (qv:=qv) (t:=ta) (pl:=pa) (pr:=pr)).2 (Holds.to (by first|exact hpOI_open.1 (Holds.to (by assumption))|assumption))
        refine O.ex (Ex.move rfl) rfl ?_
        refine O.ex (Ex.move rfl) rfl ?_
        refine O.ex (Ex.move rfl) rfl ?_
        refine O.callF Try.call95 rfl rfl (CT.mono (layI_ct (tv:=tv) (pv:=pv) (qv:=qv) (t:=ta) (pl:=pa) (pr:=pr) (by omega) (by omega) (Holds.to (by assumption))) ?_)
        rintro _ w ⟨-,H⟩
        rw [hm.done.1,hm.done.2] at H
        refine O.nil ?_
        try dsimp only [thenQ,blockQ,retQ]
        first|refine ⟨_,rfl,?_⟩|(refine retD_mark ?_; intro w H; refine ⟨_,rfl,?_⟩)|(refine retD_mark2 ?_; intro w H; refine ⟨_,rfl,?_⟩)
        refine ⟨rfl,T,PL,hm.pi,hdi.done fun i h0 h1 h2=>?_,hmem,Holds.to (by assumption)⟩
        first
        | exact so.le_tr (by rw [hm.gp]; exact hstop) (hmin i h0 h1 h2)
        | exact absurd h1 (by omega)
      · refine W.skip ?_
        refine hK13 _ _ _ ?_
        refine W.seq (fun K15 hK15=>?_)
        refine W.region ?_
        refine O.ex (Ex.move rfl) rfl ?_
        refine O.ex (Ex.move rfl) rfl ?_
        refine O.ex (by first|exact Ex.nilPtr rfl|exact Ex.nilFunc rfl|exact Ex.nilYield rfl) rfl ?_
        refine O.ex (by first|exact Ex.field0 fld126_0 rfl|exact Ex.field fld126_0 rfl|exact Ex.fieldS fld126_0 rfl) rfl ?_
        refine O.ex (by first|exact Ex.loadP Try.isAgg28 rfl|exact Ex.loadR Try.isAgg28 rfl|exact Ex.loadIn1 Try.isAgg28 rfl (Holds.to (by assumption))) rfl ?_
        refine O.ex (Ex.move rfl) rfl ?_
        refine O.ex (by first|exact Ex.idxR Try.runUnderlying28 Try.sizeOf3 rfl rfl|exact Ex.idxIn Try.runUnderlying28 Try.sizeOf3 rfl rfl|exact Ex.idxS Try.runUnderlying28 Try.sizeOf3 rfl rfl|exact Ex.idx Try.runUnderlying28 Try.sizeOf3 rfl rfl (by omega) (by omega)) rfl ?_
        refine O.ex (by first|exact Ex.loadP Try.isAgg3 rfl|exact Ex.loadR Try.isAgg3 rfl|exact Ex.loadIn1 Try.isAgg3 rfl (Holds.to (by assumption))) rfl ?_
        rw [show ta.getD ((c : Nat) : Int).toNat default = T.getD c default from hgc]
        refine O.ex (Ex.move rfl) rfl ?_
        refine O.callF Try.call95 rfl rfl (CT.mono (layI_ct (tv:=tv) (pv:=pv) (qv:=qv) (t:=ta) (pl:=pa) (pr:=pr) (by omega) (by omega) ((hpOI_open (h:=h) (tv:=tv) (pv:=pv) (qv:=qv) (t:=ta) (pl:=pa) (pr:=pr)).2 (Holds.to (by assumption)))) ?_)
        rintro _ w ⟨-,H⟩
        refine O.nil ?_
        refine hK15 _ _ _ ?_
        refine W.region ?_
        refine O.ex (Ex.move rfl) rfl ?_
        refine O.ex (Ex.assign rfl) rfl ?_
        refine O.nil ?_
        have hmv:=hm.move hcT (Ne.symm hcq)
        have hah2 : kI pr (T.getD c default) (T.getD q default):=by rw [hm.gp]; exact Decidable.not_not.1 hgo
        have hst:=hdi.step so hc0 hcT hcp hah2 hmin
        exact ⟨c,⟨rfl,rfl,rfl,trivial⟩,⟨rfl,_,_,_,_,hmv,hst,fun y=>(swap_mem hq hcT y).trans (hmem y),Holds.to (by assumption)⟩,by omega⟩
end Go.Proofs.Ytliofdfhimmjmaa
namespace Go.Proofs.Ytliofdfhimmjmaa
open Go.Rr Go Hp
set_option linter.unusedVariables false
theorem getD_rep_neg {xs : List Int} {n : Nat} (hl : xs.length = n) (h : ∀ j,j < n → xs.getD j default = -1) : xs = List.replicate n (-1):=by
  refine Hp.ext _ _ (by simp [hl]) fun i hi=>?_
  rw [h i (by omega)]
  simp [List.getD_eq_getElem?_getD,show i < n by omega]
def HqI (h : Nat) (s : List (Option Int)) : HProp:=hex fun tv=>hex fun pv=>hex fun qv=>hex fun t=>hex fun pl=>hex fun pr=>star [hp (HR RI s t pl pr),HpOI h tv pv qv t pl pr]
theorem hqI_open {w : World} {h : Nat} {s : List (Option Int)} {L : List HProp} : Holds w (HqI h s::L) ↔ ∃ tv pv qv t pl pr,HR RI s t pl pr ∧ Holds w (HpOI h tv pv qv t pl pr::L):=by
  unfold HqI
  simp only [Holds.hex,Holds.star,List.cons_append,List.nil_append,Holds.hp]
set_option maxHeartbeats 1000000 in
theorem newIH_ct {w : World} {n : Int} {L : List HProp} (H : Holds w L) :
    CT Try.prog 68 [.int .i64 n] w fun u w'=>(¬ (0 ≤ n ∧ n ≤ 64) ∧ u = .tuple #[.pointer none,.int .i64 1] ∧ Holds w' L) ∨
      ((0 ≤ n ∧ n ≤ 64) ∧ ∃ h,u = .tuple #[.pointer (some ⟨h,0,none⟩),.int .i64 0] ∧ Holds w' (HqI h (List.replicate n.toNat none)::L)):=by
  refine CT.enter (N:=34) Try.func68 rfl rfl rfl rfl ?_
  refine W.seq (fun K0 hK0=>?_)
  refine W.region ?_
  refine O.ex (Ex.assign rfl) rfl ?_
  refine O.ex (Ex.assign rfl) rfl ?_
  refine O.nil ?_
  refine hK0 _ _ _ ?_
  refine W.seq (fun K1 hK1=>?_)
  refine W.seq (fun K2 hK2=>?_)
  refine W.region ?_
  refine O.ex (Ex.move rfl) rfl ?_
  refine O.ex (Ex.lss rfl rfl) rfl ?_
  refine O.ex (Ex.move rfl) rfl ?_
  first|refine O.split_p (t:=8) rfl (fun h8=>?_) (fun h8=>?_)|refine O.split (t:=8) rfl (fun h8=>?_) (fun h8=>?_)
  · refine O.guard_f rfl rfl rfl rfl ?_
    refine O.guard_f rfl rfl rfl rfl ?_
    refine O.ex (Ex.pick_t rfl rfl) rfl ?_
    refine O.nil ?_
    refine hK2 _ _ _ ?_
    refine W.cond_t rfl ?_
    refine W.seq (fun K3 hK3=>?_)
    refine W.region ?_
    refine O.ex (Ex.assign rfl) rfl ?_
    refine O.ex (Ex.assign rfl) rfl ?_
    refine O.nil ?_
    refine hK3 _ _ _ ?_
    refine W.ret ?_
    try dsimp only [thenQ,blockQ,retQ]
    first|refine ⟨_,⟨_,_,rfl,rfl,_,_,rfl,rfl,rfl⟩,?_⟩|(refine retD_mark ?_; intro w H; refine ⟨_,⟨_,_,rfl,rfl,_,_,rfl,rfl,rfl⟩,?_⟩)|(refine retD_mark2 ?_; intro w H; refine ⟨_,⟨_,_,rfl,rfl,_,_,rfl,rfl,rfl⟩,?_⟩)
    first
    | exact .inl ⟨by omega,rfl,by assumption⟩
    | (refine .inr ⟨by omega,_,rfl,hqI_open.2 ⟨_,_,_,[],xs,List.replicate k (0 : Int),?_,hpOI_open.2 (Holds.to (by assumption))⟩⟩
       obtain rfl : i = k:=by omega
       rw [getD_rep_neg hxl hxs]
       exact HR.new i (by omega) (0 : Int))
  · refine O.guard_t rfl rfl ?_
    refine O.ex (Ex.move rfl) rfl ?_
    refine O.guard_t rfl rfl ?_
    refine O.ex (Ex.gtr rfl rfl) rfl ?_
    refine O.ex (Ex.pick_f rfl rfl) rfl ?_
    refine O.nil ?_
    refine hK2 _ _ _ ?_
    first|refine W.cond_p rfl (fun h11=>?_) (fun h11=>?_)|refine W.cond_b rfl (fun h11=>?_) (fun h11=>?_)
    · refine W.seq (fun K4 hK4=>?_)
      refine W.region ?_
      refine O.ex (Ex.assign rfl) rfl ?_
      refine O.ex (Ex.assign rfl) rfl ?_
      refine O.nil ?_
      refine hK4 _ _ _ ?_
      refine W.ret ?_
      try dsimp only [thenQ,blockQ,retQ]
      first|refine ⟨_,⟨_,_,rfl,rfl,_,_,rfl,rfl,rfl⟩,?_⟩|(refine retD_mark ?_; intro w H; refine ⟨_,⟨_,_,rfl,rfl,_,_,rfl,rfl,rfl⟩,?_⟩)|(refine retD_mark2 ?_; intro w H; refine ⟨_,⟨_,_,rfl,rfl,_,_,rfl,rfl,rfl⟩,?_⟩)
      first
      | exact .inl ⟨by omega,rfl,by assumption⟩
      | (refine .inr ⟨by omega,_,rfl,hqI_open.2 ⟨_,_,_,[],xs,List.replicate k (0 : Int),?_,hpOI_open.2 (Holds.to (by assumption))⟩⟩
         obtain rfl : i = k:=by omega
         rw [getD_rep_neg hxl hxs]
         exact HR.new i (by omega) (0 : Int))
    · refine W.skip ?_
      refine hK1 _ _ _ ?_
      refine W.seq (fun K5 hK5=>?_)
      refine W.drawTo _ (.take 0 (.take 2 (.two 1 3 (.one 3 (.take 4 (.one 5 (.take 6 .nil)))) (.one 1 (.take 4 (.one 5 (.take 6 .nil))))))) (mixed) (fun _ _ _ _ h=>h) (by assumption) (PP.refl _) (by decide +kernel) (fun w H=>?_)
      obtain ⟨k,rfl⟩ : ∃ k : Nat,n = k:=⟨n.toNat,by omega⟩
      refine OQ.ex rfl (fun w H=>(Ex.move rfl)) rfl ?_
      refine OQ.ex rfl (fun w H=>(Ex.move rfl)) rfl ?_
      refine OQ.two rfl rfl ?_ ?_
      · refine O.makeR (0 : Int) (e:=Value.int .i64) (bt:=8) Try.runUnderlying28 Try.sizeOf3 Try.zeroValue3 Try.typeInfo3 rfl rfl rfl (fun s13 w hs13 H=>?_)
        refine O.thenNil ⟨(by first|exact Holds.to (by assumption)|assumption),?_⟩
        refine OQ.step rfl ?_
        refine O.makeR (0 : Int) (e:=Value.int .i64) (bt:=8) Try.runUnderlying28 Try.sizeOf3 Try.zeroValue3 Try.typeInfo3 rfl rfl rfl (fun s15 w hs15 H=>?_)
        refine O.thenNil ⟨(by first|exact Holds.to (by assumption)|assumption),?_⟩
        refine OQ.ex rfl (fun w H=>(Ex.build rfl (bld126_1_2 _ _ (by first|rfl|assumption) (by first|rfl|assumption)))) rfl ?_
        refine OQ.step rfl ?_
        refine O.boxP rfl (fun b17 w H=>?_)
        refine O.thenNil ⟨(by first|exact Holds.to (by assumption)|assumption),?_⟩
        refine OQ.ex rfl (fun w H=>(Ex.assign rfl)) rfl ?_
        refine OQ.done ?_
        refine hK5 _ _ _ ?_
        refine W.seq (fun K6 hK6=>?_)
        refine W.seq (fun K7 hK7=>?_)
        refine W.region ?_
        refine O.ex (Ex.move rfl) rfl ?_
        refine O.ex (by first|exact Ex.nilPtr rfl|exact Ex.nilFunc rfl|exact Ex.nilYield rfl) rfl ?_
        refine O.ex (by first|exact Ex.field0 fld126_1 rfl|exact Ex.field fld126_1 rfl|exact Ex.fieldS fld126_1 rfl) rfl ?_
        refine O.ex (by first|exact Ex.loadP Try.isAgg28 rfl|exact Ex.loadR Try.isAgg28 rfl|exact Ex.loadIn1 Try.isAgg28 rfl (Holds.to (by assumption))) rfl ?_
        refine O.ex (by first|exact Ex.lenR Try.runUnderlying28 rfl|exact Ex.lenIn Try.runUnderlying28 rfl|exact Ex.lenL Try.runUnderlying28 rfl|exact Ex.len rfl Try.runUnderlying28 rfl) rfl ?_
        refine O.ex (Ex.move rfl) rfl ?_
        refine O.nil ?_
        refine hK7 _ _ _ ?_
        refine W.block ?_
        rw [Int.toNat_natCast] at H
        have lk : (List.replicate k (0 : Int)).length = k:=by simp
        have H:=arr_nil (T:=3) (e:=eN) H
        refine W.loop (σ:=Nat) (fun i=>[(0,.int .i64 k),(2,.pointer none),(3,.int .i64 0),(4,.pointer (some ⟨b17,0,none⟩)),(22,.int .i64 ((List.replicate k (0 : Int)).length : Int)),(23,.int .i64 (i : Int))]) (fun i ds w=>ds = [] ∧ i ≤ k ∧ ∃ xs : List Int,xs.length = k ∧ (∀ j,j < i → xs.getD j default = -1) ∧ Holds w (pt b17 (.cells #[.slice none 0 0,s13,s15] 126 (0,0))::arr 3 (Value.int .i64) s13 xs::arr 3 (Value.int .i64) s15 (List.replicate k (0 : Int))::arr 3 eN (.slice none 0 0) []::L)) (fun i=>k - i) 0 ⟨rfl,rfl,rfl,rfl,rfl,rfl,trivial⟩ ⟨rfl,by omega,_,lk,by omega,Holds.to (by assumption)⟩ ?_
        clear H
        rintro i _ w ⟨rfl,hi,xs,hxl,hxs,H⟩
        refine W.seq (fun K8 hK8=>?_)
        refine W.region ?_
        refine O.ex (Ex.lss rfl rfl) rfl ?_
        refine O.nil ?_
        refine hK8 _ _ _ ?_
        refine W.seq (fun K9 hK9=>?_)
        first|refine W.cond_p rfl (fun hlt=>?_) (fun hge=>?_)|refine W.cond_b rfl (fun hlt=>?_) (fun hge=>?_)
        · refine W.skip ?_
          refine hK9 _ _ _ ?_
          refine W.seq (fun K10 hK10=>?_)
          refine W.block ?_
          refine W.seq (fun K11 hK11=>?_)
          refine W.region ?_
          refine O.ex (Ex.move rfl) rfl ?_
          refine O.ex (Ex.assign rfl) rfl ?_
          refine O.nil ?_
          refine hK11 _ _ _ ?_
          refine W.region ?_
          refine O.ex (Ex.move rfl) rfl ?_
          refine O.ex (by first|exact Ex.nilPtr rfl|exact Ex.nilFunc rfl|exact Ex.nilYield rfl) rfl ?_
          refine O.ex (by first|exact Ex.field0 fld126_1 rfl|exact Ex.field fld126_1 rfl|exact Ex.fieldS fld126_1 rfl) rfl ?_
          refine O.ex (by first|exact Ex.loadP Try.isAgg28 rfl|exact Ex.loadR Try.isAgg28 rfl|exact Ex.loadIn1 Try.isAgg28 rfl (Holds.to (by assumption))) rfl ?_
          refine O.ex (Ex.move rfl) rfl ?_
          refine O.ex (by first|exact Ex.idxR Try.runUnderlying28 Try.sizeOf3 rfl rfl|exact Ex.idxIn Try.runUnderlying28 Try.sizeOf3 rfl rfl|exact Ex.idxS Try.runUnderlying28 Try.sizeOf3 rfl rfl|exact Ex.idx Try.runUnderlying28 Try.sizeOf3 rfl rfl (by omega) (by omega)) rfl ?_
          first|refine O.storeP Try.sizeOf3 rfl rfl (fun w H=>?_)|refine O.storeR Try.sizeOf3 rfl rfl (fun w H=>?_)
          refine O.nil ?_
          refine hK10 _ _ _ ?_
          refine W.region ?_
          refine O.ex (by first|exact Ex.addI rfl rfl|exact Ex.add rfl rfl rfl) rfl ?_
          refine O.ex (Ex.move rfl) rfl ?_
          refine O.nil ?_
          refine ⟨i + 1,⟨rfl,rfl,rfl,rfl,rfl,rfl,trivial⟩,⟨rfl,by omega,xs.set i (-1),(by rw [List.length_set]; exact hxl),fun j hj=>?_,Holds.to (by assumption)⟩,by omega⟩
          rw [Hp.gs _ _ _ _ (by omega)]
          split
          · rfl
          · exact hxs j (by omega)
        · refine W.exit ?_
          refine hK6 _ _ _ ?_
          refine W.seq (fun K12 hK12=>?_)
          refine W.region ?_
          refine O.ex (Ex.move rfl) rfl ?_
          refine O.ex (Ex.assign rfl) rfl ?_
          refine O.ex (Ex.assign rfl) rfl ?_
          refine O.nil ?_
          refine hK12 _ _ _ ?_
          refine W.ret ?_
          try dsimp only [thenQ,blockQ,retQ]
          first|refine ⟨_,⟨_,_,rfl,rfl,_,_,rfl,rfl,rfl⟩,?_⟩|(refine retD_mark ?_; intro w H; refine ⟨_,⟨_,_,rfl,rfl,_,_,rfl,rfl,rfl⟩,?_⟩)|(refine retD_mark2 ?_; intro w H; refine ⟨_,⟨_,_,rfl,rfl,_,_,rfl,rfl,rfl⟩,?_⟩)
          first
          | exact .inl ⟨by omega,rfl,by assumption⟩
          | (refine .inr ⟨by omega,_,rfl,hqI_open.2 ⟨_,_,_,[],xs,List.replicate k (0 : Int),?_,hpOI_open.2 (Holds.to (by assumption))⟩⟩
             obtain rfl : i = k:=by omega
             rw [getD_rep_neg hxl hxs]
             exact HR.new i (by omega) (0 : Int))
      · refine O.makeR (0 : Int) (e:=Value.int .i64) (bt:=8) Try.runUnderlying28 Try.sizeOf3 Try.zeroValue3 Try.typeInfo3 rfl rfl rfl (fun s15 w hs15 H=>?_)
        refine O.thenNil ⟨(by first|exact Holds.to (by assumption)|assumption),?_⟩
        refine OQ.step rfl ?_
        refine O.makeR (0 : Int) (e:=Value.int .i64) (bt:=8) Try.runUnderlying28 Try.sizeOf3 Try.zeroValue3 Try.typeInfo3 rfl rfl rfl (fun s13 w hs13 H=>?_)
        refine O.thenNil ⟨(by first|exact Holds.to (by assumption)|assumption),?_⟩
        refine OQ.ex rfl (fun w H=>(Ex.build rfl (bld126_1_2 _ _ (by first|rfl|assumption) (by first|rfl|assumption)))) rfl ?_
        refine OQ.step rfl ?_
        refine O.boxP rfl (fun b17 w H=>?_)
        refine O.thenNil ⟨(by first|exact Holds.to (by assumption)|assumption),?_⟩
        refine OQ.ex rfl (fun w H=>(Ex.assign rfl)) rfl ?_
        refine OQ.done ?_
        refine hK5 _ _ _ ?_
        refine W.seq (fun K13 hK13=>?_)
        refine W.seq (fun K14 hK14=>?_)
        refine W.region ?_
        refine O.ex (Ex.move rfl) rfl ?_
        refine O.ex (by first|exact Ex.nilPtr rfl|exact Ex.nilFunc rfl|exact Ex.nilYield rfl) rfl ?_
        refine O.ex (by first|exact Ex.field0 fld126_1 rfl|exact Ex.field fld126_1 rfl|exact Ex.fieldS fld126_1 rfl) rfl ?_
        refine O.ex (by first|exact Ex.loadP Try.isAgg28 rfl|exact Ex.loadR Try.isAgg28 rfl|exact Ex.loadIn1 Try.isAgg28 rfl (Holds.to (by assumption))) rfl ?_
        refine O.ex (by first|exact Ex.lenR Try.runUnderlying28 rfl|exact Ex.lenIn Try.runUnderlying28 rfl|exact Ex.lenL Try.runUnderlying28 rfl|exact Ex.len rfl Try.runUnderlying28 rfl) rfl ?_
        refine O.ex (Ex.move rfl) rfl ?_
        refine O.nil ?_
        refine hK14 _ _ _ ?_
        refine W.block ?_
        rw [Int.toNat_natCast] at H
        have lk : (List.replicate k (0 : Int)).length = k:=by simp
        have H:=arr_nil (T:=3) (e:=eN) H
        refine W.loop (σ:=Nat) (fun i=>[(0,.int .i64 k),(2,.pointer none),(3,.int .i64 0),(4,.pointer (some ⟨b17,0,none⟩)),(22,.int .i64 ((List.replicate k (0 : Int)).length : Int)),(23,.int .i64 (i : Int))]) (fun i ds w=>ds = [] ∧ i ≤ k ∧ ∃ xs : List Int,xs.length = k ∧ (∀ j,j < i → xs.getD j default = -1) ∧ Holds w (pt b17 (.cells #[.slice none 0 0,s13,s15] 126 (0,0))::arr 3 (Value.int .i64) s13 xs::arr 3 (Value.int .i64) s15 (List.replicate k (0 : Int))::arr 3 eN (.slice none 0 0) []::L)) (fun i=>k - i) 0 ⟨rfl,rfl,rfl,rfl,rfl,rfl,trivial⟩ ⟨rfl,by omega,_,lk,by omega,Holds.to (by assumption)⟩ ?_
        clear H
        rintro i _ w ⟨rfl,hi,xs,hxl,hxs,H⟩
        refine W.seq (fun K15 hK15=>?_)
        refine W.region ?_
        refine O.ex (Ex.lss rfl rfl) rfl ?_
        refine O.nil ?_
        refine hK15 _ _ _ ?_
        refine W.seq (fun K16 hK16=>?_)
        first|refine W.cond_p rfl (fun hlt=>?_) (fun hge=>?_)|refine W.cond_b rfl (fun hlt=>?_) (fun hge=>?_)
        · refine W.skip ?_
          refine hK16 _ _ _ ?_
          refine W.seq (fun K17 hK17=>?_)
          refine W.block ?_
          refine W.seq (fun K18 hK18=>?_)
          refine W.region ?_
          refine O.ex (Ex.move rfl) rfl ?_
          refine O.ex (Ex.assign rfl) rfl ?_
          refine O.nil ?_
          refine hK18 _ _ _ ?_
          refine W.region ?_
          refine O.ex (Ex.move rfl) rfl ?_
          refine O.ex (by first|exact Ex.nilPtr rfl|exact Ex.nilFunc rfl|exact Ex.nilYield rfl) rfl ?_
          refine O.ex (by first|exact Ex.field0 fld126_1 rfl|exact Ex.field fld126_1 rfl|exact Ex.fieldS fld126_1 rfl) rfl ?_
          refine O.ex (by first|exact Ex.loadP Try.isAgg28 rfl|exact Ex.loadR Try.isAgg28 rfl|exact Ex.loadIn1 Try.isAgg28 rfl (Holds.to (by assumption))) rfl ?_
          refine O.ex (Ex.move rfl) rfl ?_
          refine O.ex (by first|exact Ex.idxR Try.runUnderlying28 Try.sizeOf3 rfl rfl|exact Ex.idxIn Try.runUnderlying28 Try.sizeOf3 rfl rfl|exact Ex.idxS Try.runUnderlying28 Try.sizeOf3 rfl rfl|exact Ex.idx Try.runUnderlying28 Try.sizeOf3 rfl rfl (by omega) (by omega)) rfl ?_
          first|refine O.storeP Try.sizeOf3 rfl rfl (fun w H=>?_)|refine O.storeR Try.sizeOf3 rfl rfl (fun w H=>?_)
          refine O.nil ?_
          refine hK17 _ _ _ ?_
          refine W.region ?_
          refine O.ex (by first|exact Ex.addI rfl rfl|exact Ex.add rfl rfl rfl) rfl ?_
          refine O.ex (Ex.move rfl) rfl ?_
          refine O.nil ?_
          refine ⟨i + 1,⟨rfl,rfl,rfl,rfl,rfl,rfl,trivial⟩,⟨rfl,by omega,xs.set i (-1),(by rw [List.length_set]; exact hxl),fun j hj=>?_,Holds.to (by assumption)⟩,by omega⟩
          rw [Hp.gs _ _ _ _ (by omega)]
          split
          · rfl
          · exact hxs j (by omega)
        · refine W.exit ?_
          refine hK13 _ _ _ ?_
          refine W.seq (fun K19 hK19=>?_)
          refine W.region ?_
          refine O.ex (Ex.move rfl) rfl ?_
          refine O.ex (Ex.assign rfl) rfl ?_
          refine O.ex (Ex.assign rfl) rfl ?_
          refine O.nil ?_
          refine hK19 _ _ _ ?_
          refine W.ret ?_
          try dsimp only [thenQ,blockQ,retQ]
          first|refine ⟨_,⟨_,_,rfl,rfl,_,_,rfl,rfl,rfl⟩,?_⟩|(refine retD_mark ?_; intro w H; refine ⟨_,⟨_,_,rfl,rfl,_,_,rfl,rfl,rfl⟩,?_⟩)|(refine retD_mark2 ?_; intro w H; refine ⟨_,⟨_,_,rfl,rfl,_,_,rfl,rfl,rfl⟩,?_⟩)
          first
          | exact .inl ⟨by omega,rfl,by assumption⟩
          | (refine .inr ⟨by omega,_,rfl,hqI_open.2 ⟨_,_,_,[],xs,List.replicate k (0 : Int),?_,hpOI_open.2 (Holds.to (by assumption))⟩⟩
             obtain rfl : i = k:=by omega
             rw [getD_rep_neg hxl hxs]
             exact HR.new i (by omega) (0 : Int))
theorem peekIH_ct {w : World} {h : Nat} {s : List (Option Int)} {L : List HProp} (H : Holds w (HqI h s::L)) :
    CT Try.prog 94 [.pointer (some ⟨h,0,none⟩)] w fun u w'=>u = .tuple #[.int .i64 (pkN RI s : Int),.int .i64 (pkP RI s),.bool (pkO RI s)] ∧ Holds w' (HqI h s::L):=by
  obtain ⟨tv,pv,qv,t,pl,pr,hr,H⟩:=hqI_open.1 H
  have H:=hpOI_open.1 H
  refine CT.enter (N:=31) Try.func94 rfl rfl rfl rfl ?_
  refine W.seq (fun K0 hK0=>?_)
  refine W.region ?_
  refine O.ex (Ex.assign rfl) rfl ?_
  refine O.ex (Ex.assign rfl) rfl ?_
  refine O.ex (Ex.assign rfl) rfl ?_
  refine O.nil ?_
  refine hK0 _ _ _ ?_
  refine W.seq (fun K1 hK1=>?_)
  refine W.seq (fun K2 hK2=>?_)
  refine W.region ?_
  refine O.ex (Ex.move rfl) rfl ?_
  refine O.ex (by first|exact Ex.nilPtr rfl|exact Ex.nilFunc rfl|exact Ex.nilYield rfl) rfl ?_
  refine O.ex (by first|exact Ex.field0 fld126_0 rfl|exact Ex.field fld126_0 rfl|exact Ex.fieldS fld126_0 rfl) rfl ?_
  refine O.ex (by first|exact Ex.loadP Try.isAgg28 rfl|exact Ex.loadR Try.isAgg28 rfl|exact Ex.loadIn1 Try.isAgg28 rfl (Holds.to (by assumption))) rfl ?_
  refine O.ex (by first|exact Ex.lenR Try.runUnderlying28 rfl|exact Ex.lenIn Try.runUnderlying28 rfl|exact Ex.lenL Try.runUnderlying28 rfl|exact Ex.len rfl Try.runUnderlying28 rfl) rfl ?_
  refine O.ex (Ex.eqlI rfl rfl) rfl ?_
  refine O.nil ?_
  refine hK2 _ _ _ ?_
  first|refine W.cond_p rfl (fun hz=>?_) (fun hnz=>?_)|refine W.cond_b rfl (fun hz=>?_) (fun hnz=>?_)
  · refine W.seq (fun K3 hK3=>?_)
    refine W.region ?_
    refine O.ex (Ex.assign rfl) rfl ?_
    refine O.nil ?_
    refine hK3 _ _ _ ?_
    refine W.seq (fun K4 hK4=>?_)
    refine W.region ?_
    refine O.ex (Ex.move rfl) rfl ?_
    refine O.ex (Ex.assign rfl) rfl ?_
    refine O.ex (Ex.assign rfl) rfl ?_
    refine O.ex (Ex.assign rfl) rfl ?_
    refine O.nil ?_
    refine hK4 _ _ _ ?_
    refine W.ret ?_
    try dsimp only [thenQ,blockQ,retQ]
    first|refine ⟨_,⟨_,_,rfl,rfl,_,_,rfl,rfl,_,_,rfl,rfl,rfl⟩,?_⟩|(refine retD_mark ?_; intro w H; refine ⟨_,⟨_,_,rfl,rfl,_,_,rfl,rfl,_,_,rfl,rfl,rfl⟩,?_⟩)|(refine retD_mark2 ?_; intro w H; refine ⟨_,⟨_,_,rfl,rfl,_,_,rfl,rfl,_,_,rfl,rfl,rfl⟩,?_⟩)
    first
    | (obtain rfl : t = []:=List.length_eq_zero_iff.1 (by omega)
       refine ⟨?_,hqI_open.2 ⟨_,_,_,_,_,_,hr,hpOI_open.2 (Holds.to (by assumption))⟩⟩
       have e:=hr.empty
       unfold pkN pkP pkO
       rw [e]; rfl)
    | (refine ⟨?_,hqI_open.2 ⟨_,_,_,_,_,_,hr,hpOI_open.2 (Holds.to (by assumption))⟩⟩
       have e:=hr.first soI h0
       have e2:=hr.pg (gm t 0 h0)
       unfold pkN pkP pkO
       rw [e]
       simp only [e2]; rfl)
  · refine W.skip ?_
    refine hK1 _ _ _ ?_
    refine W.seq (fun K5 hK5=>?_)
    have h0 : 0 < t.length:=by omega
    have hx : t.getD (Int.toNat 0) default < pr.length:=by rw [hr.lp]; exact hr.pi.lt 0 h0
    have s1:=arr_sl (e:=eN) (v:=tv) (xs:=t) (Holds.to (by assumption)) (by omega)
    have s2:=arr_sl (e:=Value.int .i64) (v:=qv) (xs:=pr) (Holds.to (by assumption)) (by omega)
    refine W.drawTo _ (.take 0 (.take 1 (.take 2 (.take 3 (.take 4 (.take 5 (.take 6 (.take 7 (.take 8 (.take 9 (.take 10 (.take 11 (.take 12 (.take 13 (.take 14 (.take 15 (.take 16 (.take 17 (.take 18 (.take 19 (.take 20 .nil))))))))))))))))))))) (mixed) (fun _ _ _ _ h=>h) (by assumption) (PP.refl _) (by decide +kernel) (fun w H=>?_)
    refine OQ.ex rfl (fun w H=>(Ex.move rfl)) rfl ?_
    refine OQ.ex rfl (fun w H=>(by first|exact Ex.nilPtr rfl|exact Ex.nilFunc rfl|exact Ex.nilYield rfl)) rfl ?_
    refine OQ.ex rfl (fun w H=>(by first|exact Ex.field0 fld126_0 rfl|exact Ex.field fld126_0 rfl|exact Ex.fieldS fld126_0 rfl)) rfl ?_
    refine OQ.ex rfl (fun w H=>(by first|exact Ex.loadP Try.isAgg28 rfl|exact Ex.loadR Try.isAgg28 rfl|exact Ex.loadIn1 Try.isAgg28 rfl (Holds.to (by assumption)))) rfl ?_
    refine OQ.ex rfl (fun w H=>(by first|exact Ex.idxR Try.runUnderlying28 Try.sizeOf3 rfl rfl|exact Ex.idxIn Try.runUnderlying28 Try.sizeOf3 rfl rfl|exact Ex.idxS Try.runUnderlying28 Try.sizeOf3 rfl rfl|exact Ex.idx Try.runUnderlying28 Try.sizeOf3 rfl rfl (by omega) (by omega))) rfl ?_
    refine OQ.ex rfl (fun w H=>(by first|exact Ex.loadP Try.isAgg3 rfl|exact Ex.loadR Try.isAgg3 rfl|exact Ex.loadIn1 Try.isAgg3 rfl (Holds.to (by assumption)))) rfl ?_
    refine OQ.ex rfl (fun w H=>(Ex.move rfl)) rfl ?_
    refine OQ.ex rfl (fun w H=>(by first|exact Ex.nilPtr rfl|exact Ex.nilFunc rfl|exact Ex.nilYield rfl)) rfl ?_
    refine OQ.ex rfl (fun w H=>(by first|exact Ex.field0 fld126_2 rfl|exact Ex.field fld126_2 rfl|exact Ex.fieldS fld126_2 rfl)) rfl ?_
    refine OQ.ex rfl (fun w H=>(by first|exact Ex.loadP Try.isAgg28 rfl|exact Ex.loadR Try.isAgg28 rfl|exact Ex.loadIn1 Try.isAgg28 rfl (Holds.to (by assumption)))) rfl ?_
    refine OQ.ex rfl (fun w H=>(Ex.move rfl)) rfl ?_
    refine OQ.ex rfl (fun w H=>(by first|exact Ex.nilPtr rfl|exact Ex.nilFunc rfl|exact Ex.nilYield rfl)) rfl ?_
    refine OQ.ex rfl (fun w H=>(by first|exact Ex.field0 fld126_0 rfl|exact Ex.field fld126_0 rfl|exact Ex.fieldS fld126_0 rfl)) rfl ?_
    refine OQ.ex rfl (fun w H=>(by first|exact Ex.loadP Try.isAgg28 rfl|exact Ex.loadR Try.isAgg28 rfl|exact Ex.loadIn1 Try.isAgg28 rfl (Holds.to (by assumption)))) rfl ?_
    refine OQ.ex rfl (fun w H=>(by first|exact Ex.idxR Try.runUnderlying28 Try.sizeOf3 rfl rfl|exact Ex.idxIn Try.runUnderlying28 Try.sizeOf3 rfl rfl|exact Ex.idxS Try.runUnderlying28 Try.sizeOf3 rfl rfl|exact Ex.idx Try.runUnderlying28 Try.sizeOf3 rfl rfl (by omega) (by omega))) rfl ?_
    refine OQ.ex rfl (fun w H=>(by first|exact Ex.loadP Try.isAgg3 rfl|exact Ex.loadR Try.isAgg3 rfl|exact Ex.loadIn1 Try.isAgg3 rfl (Holds.to (by assumption)))) rfl ?_
    refine OQ.ex rfl (fun w H=>(by first|exact Ex.idxR Try.runUnderlying28 Try.sizeOf3 rfl rfl|exact Ex.idxIn Try.runUnderlying28 Try.sizeOf3 rfl rfl|exact Ex.idxS Try.runUnderlying28 Try.sizeOf3 rfl rfl|exact Ex.idx Try.runUnderlying28 Try.sizeOf3 rfl rfl (by omega) (by omega))) rfl ?_
    refine OQ.ex rfl (fun w H=>(by first|exact Ex.loadP Try.isAgg3 rfl|exact Ex.loadR Try.isAgg3 rfl|exact Ex.loadIn1 Try.isAgg3 rfl (Holds.to (by assumption)))) rfl ?_
    refine OQ.ex rfl (fun w H=>(Ex.assign rfl)) rfl ?_
    refine OQ.ex rfl (fun w H=>(Ex.assign rfl)) rfl ?_
    refine OQ.ex rfl (fun w H=>(Ex.assign rfl)) rfl ?_
    refine OQ.done ?_
    refine hK5 _ _ _ ?_
    refine W.ret ?_
    try dsimp only [thenQ,blockQ,retQ]
    first|refine ⟨_,⟨_,_,rfl,rfl,_,_,rfl,rfl,_,_,rfl,rfl,rfl⟩,?_⟩|(refine retD_mark ?_; intro w H; refine ⟨_,⟨_,_,rfl,rfl,_,_,rfl,rfl,_,_,rfl,rfl,rfl⟩,?_⟩)|(refine retD_mark2 ?_; intro w H; refine ⟨_,⟨_,_,rfl,rfl,_,_,rfl,rfl,_,_,rfl,rfl,rfl⟩,?_⟩)
    first
    | (obtain rfl : t = []:=List.length_eq_zero_iff.1 (by omega)
       refine ⟨?_,hqI_open.2 ⟨_,_,_,_,_,_,hr,hpOI_open.2 (Holds.to (by assumption))⟩⟩
       have e:=hr.empty
       unfold pkN pkP pkO
       rw [e]; rfl)
    | (refine ⟨?_,hqI_open.2 ⟨_,_,_,_,_,_,hr,hpOI_open.2 (Holds.to (by assumption))⟩⟩
       have e:=hr.first soI h0
       have e2:=hr.pg (gm t 0 h0)
       unfold pkN pkP pkO
       rw [e]
       simp only [e2]; rfl)
set_option maxHeartbeats 1000000 in
theorem putIH_ct {w : World} {h : Nat} {s : List (Option Int)} {x : Int} {p : Int} {L : List HProp} (H : Holds w (HqI h s::L)) :
    CT Try.prog 69 [.pointer (some ⟨h,0,none⟩),.int .i64 x,.int .i64 p] w fun u w'=>u = .int .i64 (putC RI s x p) ∧ Holds w' (HqI h (putL RI s x p)::L):=by
  obtain ⟨tv,pv,qv,t,pl,pr,hr,H⟩:=hqI_open.1 H
  have H:=hpOI_open.1 H
  have ll:=hr.pi.len
  have lp:=hr.lp
  have htn:=hr.pi.len_le
  have h64:=hr.n64
  refine CT.enter (N:=76) Try.func69 rfl rfl rfl rfl ?_
  refine W.seq (fun K0 hK0=>?_)
  refine W.region ?_
  refine O.ex (Ex.assign rfl) rfl ?_
  refine O.nil ?_
  refine hK0 _ _ _ ?_
  refine W.seq (fun K1 hK1=>?_)
  refine W.block ?_
  refine W.seq (fun K2 hK2=>?_)
  refine W.region ?_
  refine O.ex (Ex.move rfl) rfl ?_
  refine O.ex (Ex.lss rfl rfl) rfl ?_
  refine O.ex (Ex.move rfl) rfl ?_
  first|refine O.split_p (t:=10) rfl (fun h10=>?_) (fun h10=>?_)|refine O.split (t:=10) rfl (fun h10=>?_) (fun h10=>?_)
  · refine O.guard_f rfl rfl rfl rfl ?_
    refine O.guard_f rfl rfl rfl rfl ?_
    refine O.guard_f rfl rfl rfl rfl ?_
    refine O.guard_f rfl rfl rfl rfl ?_
    refine O.guard_f rfl rfl rfl rfl ?_
    refine O.guard_f rfl rfl rfl rfl ?_
    refine O.guard_f rfl rfl rfl rfl ?_
    refine O.ex (Ex.pick_t rfl rfl) rfl ?_
    refine O.ex (Ex.assign rfl) rfl ?_
    refine O.nil ?_
    refine hK2 _ _ _ ?_
    refine W.cond_t rfl ?_
    refine W.seq (fun K3 hK3=>?_)
    refine W.region ?_
    refine O.ex (Ex.assign rfl) rfl ?_
    refine O.nil ?_
    refine hK3 _ _ _ ?_
    refine W.ret ?_
    try dsimp only [thenQ,blockQ,retQ]
    first|refine ⟨_,⟨_,_,rfl,rfl,rfl⟩,?_⟩|(refine retD_mark ?_; intro w H; refine ⟨_,⟨_,_,rfl,rfl,rfl⟩,?_⟩)|(refine retD_mark2 ?_; intro w H; refine ⟨_,⟨_,_,rfl,rfl,rfl⟩,?_⟩)
    first
    | (have hc : putC RI s x p = 1:=by unfold putC; rw [if_pos (by omega)]
       have hl : putL RI s x p = s:=by unfold putL; rw [if_neg (by rw [hc]; decide)]
       rw [hc,hl]
       exact ⟨rfl,hqI_open.2 ⟨_,_,_,_,_,_,hr,hpOI_open.2 (Holds.to (by assumption))⟩⟩)
    | (have hkt : k ∈ t:=e1.2 hold
       have hRp : ¬ RI p (pr.getD k default):=by first|exact Int.not_lt.2 hle|exact hle
       have hc : putC RI s k p = 5:=by unfold putC; rw [if_neg (by omega),Int.toNat_natCast,e0,if_pos hkt]; exact if_neg hRp
       have hl : putL RI s k p = s:=by unfold putL; rw [if_neg (by rw [hc]; decide)]
       rw [hc,hl]
       exact ⟨rfl,hqI_open.2 ⟨_,_,_,_,_,_,hr,hpOI_open.2 (Holds.to (by assumption))⟩⟩)
    | (have hl : putL RI s k p = s.set k (some p):=by unfold putL; rw [if_pos hc2,Int.toNat_natCast]
       rw [hc2,hl]
       exact ⟨rfl,hqI_open.2 ⟨_,_,_,_,_,_,hr.put hk hp3 hh3 (fun y=>(hm3 y).trans (hm2 y)),Holds.to (by assumption)⟩⟩)
  · refine O.guard_t rfl rfl ?_
    refine O.ex (Ex.move rfl) rfl ?_
    refine O.guard_t rfl rfl ?_
    refine O.ex (Ex.move rfl) rfl ?_
    refine O.guard_t rfl rfl ?_
    refine O.ex (by first|exact Ex.nilPtr rfl|exact Ex.nilFunc rfl|exact Ex.nilYield rfl) rfl ?_
    refine O.guard_t rfl rfl ?_
    refine O.ex (by first|exact Ex.field0 fld126_1 rfl|exact Ex.field fld126_1 rfl|exact Ex.fieldS fld126_1 rfl) rfl ?_
    refine O.guard_t rfl rfl ?_
    refine O.ex (by first|exact Ex.loadP Try.isAgg28 rfl|exact Ex.loadR Try.isAgg28 rfl|exact Ex.loadIn1 Try.isAgg28 rfl (Holds.to (by assumption))) rfl ?_
    refine O.guard_t rfl rfl ?_
    refine O.ex (by first|exact Ex.lenR Try.runUnderlying28 rfl|exact Ex.lenIn Try.runUnderlying28 rfl|exact Ex.lenL Try.runUnderlying28 rfl|exact Ex.len rfl Try.runUnderlying28 rfl) rfl ?_
    refine O.guard_t rfl rfl ?_
    refine O.ex (Ex.geq rfl rfl) rfl ?_
    refine O.ex (Ex.pick_f rfl rfl) rfl ?_
    refine O.ex (Ex.assign rfl) rfl ?_
    refine O.nil ?_
    refine hK2 _ _ _ ?_
    first|refine W.cond_p rfl (fun hge=>?_) (fun hlt=>?_)|refine W.cond_b rfl (fun hge=>?_) (fun hlt=>?_)
    · refine W.seq (fun K4 hK4=>?_)
      refine W.region ?_
      refine O.ex (Ex.assign rfl) rfl ?_
      refine O.nil ?_
      refine hK4 _ _ _ ?_
      refine W.ret ?_
      try dsimp only [thenQ,blockQ,retQ]
      first|refine ⟨_,⟨_,_,rfl,rfl,rfl⟩,?_⟩|(refine retD_mark ?_; intro w H; refine ⟨_,⟨_,_,rfl,rfl,rfl⟩,?_⟩)|(refine retD_mark2 ?_; intro w H; refine ⟨_,⟨_,_,rfl,rfl,rfl⟩,?_⟩)
      first
      | (have hc : putC RI s x p = 1:=by unfold putC; rw [if_pos (by omega)]
         have hl : putL RI s x p = s:=by unfold putL; rw [if_neg (by rw [hc]; decide)]
         rw [hc,hl]
         exact ⟨rfl,hqI_open.2 ⟨_,_,_,_,_,_,hr,hpOI_open.2 (Holds.to (by assumption))⟩⟩)
      | (have hkt : k ∈ t:=e1.2 hold
         have hRp : ¬ RI p (pr.getD k default):=by first|exact Int.not_lt.2 hle|exact hle
         have hc : putC RI s k p = 5:=by unfold putC; rw [if_neg (by omega),Int.toNat_natCast,e0,if_pos hkt]; exact if_neg hRp
         have hl : putL RI s k p = s:=by unfold putL; rw [if_neg (by rw [hc]; decide)]
         rw [hc,hl]
         exact ⟨rfl,hqI_open.2 ⟨_,_,_,_,_,_,hr,hpOI_open.2 (Holds.to (by assumption))⟩⟩)
      | (have hl : putL RI s k p = s.set k (some p):=by unfold putL; rw [if_pos hc2,Int.toNat_natCast]
         rw [hc2,hl]
         exact ⟨rfl,hqI_open.2 ⟨_,_,_,_,_,_,hr.put hk hp3 hh3 (fun y=>(hm3 y).trans (hm2 y)),Holds.to (by assumption)⟩⟩)
    · refine W.seq (fun K5 hK5=>?_)
      refine W.region ?_
      obtain ⟨k,rfl⟩ : ∃ k : Nat,x = k:=⟨x.toNat,by omega⟩
      have hk : k < s.length:=by omega
      have hk0 : (0 : Int) ≤ (k : Int):=by omega
      have e0:=hr.get k hk
      have e1:=hr.pi.mem_iff hk
      refine O.ex (Ex.move rfl) rfl ?_
      refine O.ex (by first|exact Ex.nilPtr rfl|exact Ex.nilFunc rfl|exact Ex.nilYield rfl) rfl ?_
      refine O.ex (by first|exact Ex.field0 fld126_1 rfl|exact Ex.field fld126_1 rfl|exact Ex.fieldS fld126_1 rfl) rfl ?_
      refine O.ex (by first|exact Ex.loadP Try.isAgg28 rfl|exact Ex.loadR Try.isAgg28 rfl|exact Ex.loadIn1 Try.isAgg28 rfl (Holds.to (by assumption))) rfl ?_
      refine O.ex (Ex.move rfl) rfl ?_
      refine O.ex (by first|exact Ex.idxR Try.runUnderlying28 Try.sizeOf3 rfl rfl|exact Ex.idxIn Try.runUnderlying28 Try.sizeOf3 rfl rfl|exact Ex.idxS Try.runUnderlying28 Try.sizeOf3 rfl rfl|exact Ex.idx Try.runUnderlying28 Try.sizeOf3 rfl rfl (by omega) (by omega)) rfl ?_
      refine O.ex (by first|exact Ex.loadP Try.isAgg3 rfl|exact Ex.loadR Try.isAgg3 rfl|exact Ex.loadIn1 Try.isAgg3 rfl (Holds.to (by assumption))) rfl ?_
      refine O.ex (Ex.lss rfl rfl) rfl ?_
      refine O.ex (Ex.assign rfl) rfl ?_
      refine O.nil ?_
      refine hK5 _ _ _ ?_
      first|refine W.cond_p rfl (fun hnew=>?_) (fun hold=>?_)|refine W.cond_b rfl (fun hnew=>?_) (fun hold=>?_)
      · refine W.seq (fun K6 hK6=>?_)
        refine W.region ?_
        refine O.ex (Ex.move rfl) rfl ?_
        refine O.ex (Ex.move rfl) rfl ?_
        refine O.ex (by first|exact Ex.nilPtr rfl|exact Ex.nilFunc rfl|exact Ex.nilYield rfl) rfl ?_
        refine O.ex (by first|exact Ex.field0 fld126_0 rfl|exact Ex.field fld126_0 rfl|exact Ex.fieldS fld126_0 rfl) rfl ?_
        refine O.ex (by first|exact Ex.loadP Try.isAgg28 rfl|exact Ex.loadR Try.isAgg28 rfl|exact Ex.loadIn1 Try.isAgg28 rfl (Holds.to (by assumption))) rfl ?_
        refine O.ex (Ex.move rfl) rfl ?_
        refine O.build1 (e:=eN) Try.runUnderlying28 Try.sizeOf3 Try.zeroValue3 rfl (fun v34 w hv34 H=>?_)
        refine O.appendR Try.runUnderlying28 Try.typeInfo3 (bt:=8) rfl Try.sizeOf3 Try.zeroValue3 rfl rfl (fun v35 w hv35 H=>?_)
        refine O.ex (by first|exact Ex.nilPtr rfl|exact Ex.nilFunc rfl|exact Ex.nilYield rfl) rfl ?_
        refine O.ex (by first|exact Ex.field0 fld126_0 rfl|exact Ex.field fld126_0 rfl|exact Ex.fieldS fld126_0 rfl) rfl ?_
        first|refine O.storeP Try.sizeOf28 rfl rfl (fun w H=>?_)|refine O.storeR Try.sizeOf28 rfl rfl (fun w H=>?_)
        refine O.nil ?_
        refine hK6 _ _ _ ?_
        have hlen : (t ++ [k]).length = t.length + 1:=by simp
        have s1:=arr_sl (e:=eN) (v:=v35) (xs:=t ++ [k]) (Holds.to (by assumption)) (by omega)
        have s2:=arr_sl (e:=Value.int .i64) (v:=pv) (xs:=pl) (Holds.to (by assumption)) (by omega)
        refine W.drawTo (pt h _::[]) (.take 0 (.take 1 (.take 2 (.take 3 (.take 4 (.take 5 (.take 6 (.take 7 (.take 8 (.take 9 (.take 10 (.take 11 (.one 12 .nil))))))))))))) (mixed) (fun _ _ _ _ h=>h) (by assumption) PP.auto (by decide +kernel) (fun w H=>?_)
        refine OQ.ex rfl (fun w H=>(Ex.move rfl)) rfl ?_
        refine OQ.ex rfl (fun w H=>(by first|exact Ex.nilPtr rfl|exact Ex.nilFunc rfl|exact Ex.nilYield rfl)) rfl ?_
        refine OQ.ex rfl (fun w H=>(by first|exact Ex.field0 fld126_1 rfl|exact Ex.field fld126_1 rfl|exact Ex.fieldS fld126_1 rfl)) rfl ?_
        refine OQ.ex rfl (fun w H=>(by first|exact Ex.loadP Try.isAgg28 rfl|exact Ex.loadR Try.isAgg28 rfl|exact Ex.loadIn1 Try.isAgg28 rfl (Holds.to (by assumption)))) rfl ?_
        refine OQ.ex rfl (fun w H=>(Ex.move rfl)) rfl ?_
        refine OQ.ex rfl (fun w H=>(Ex.move rfl)) rfl ?_
        refine OQ.ex rfl (fun w H=>(by first|exact Ex.nilPtr rfl|exact Ex.nilFunc rfl|exact Ex.nilYield rfl)) rfl ?_
        refine OQ.ex rfl (fun w H=>(by first|exact Ex.field0 fld126_0 rfl|exact Ex.field fld126_0 rfl|exact Ex.fieldS fld126_0 rfl)) rfl ?_
        refine OQ.ex rfl (fun w H=>(by first|exact Ex.loadP Try.isAgg28 rfl|exact Ex.loadR Try.isAgg28 rfl|exact Ex.loadIn1 Try.isAgg28 rfl (Holds.to (by assumption)))) rfl ?_
        refine OQ.ex rfl (fun w H=>(by first|exact Ex.lenR Try.runUnderlying28 rfl|exact Ex.lenIn Try.runUnderlying28 rfl|exact Ex.lenL Try.runUnderlying28 rfl|exact Ex.len rfl Try.runUnderlying28 rfl)) rfl ?_
        refine OQ.ex rfl (fun w H=>(by first|exact Ex.subI rfl rfl|exact Ex.sub rfl rfl rfl)) rfl ?_
        refine OQ.ex rfl (fun w H=>(by first|exact Ex.idxR Try.runUnderlying28 Try.sizeOf3 rfl rfl|exact Ex.idxIn Try.runUnderlying28 Try.sizeOf3 rfl rfl|exact Ex.idxS Try.runUnderlying28 Try.sizeOf3 rfl rfl|exact Ex.idx Try.runUnderlying28 Try.sizeOf3 rfl rfl (by omega) (by omega))) rfl ?_
        refine OQ.last rfl (by decide +kernel) ?_
        first|refine O.storeP Try.sizeOf3 rfl rfl (fun w H=>?_)|refine O.storeR Try.sizeOf3 rfl rfl (fun w H=>?_)
        refine O.nil ?_
        refine hK1 _ _ _ ?_
        refine W.seq (fun K7 hK7=>?_)
        refine W.region ?_
        obtain ⟨t2,pl2,i,tv2,hp2,hat2,hi2,hu2,hm2,hc2,H⟩ : ∃ (t2 : List Nat) (pl2 : List Int) (i : Nat) (tv2 : Value),PI s.length t2 pl2 ∧ pl2.getD k default = (i : Int) ∧ i < t2.length ∧ UI (kI (pr.set k p)) t2 i ∧ (∀ y,y ∈ t2 ↔ y = k ∨ y ∈ t) ∧ putC RI s k p = 0 ∧ Holds w (pt h (.cells #[tv2,pv,qv] 126 (0,0))::arr 3 eN tv2 t2::arr 3 (Value.int .i64) pv pl2::arr 3 (Value.int .i64) qv pr::L):=by
          first
          | (have hkn : k ∉ t:=fun q=>e1.1 q hnew
             have hu:=hr.upNew (p:=p) hk hkn
             rw [show ((t ++ [k]).length : Int) - 1 = (t.length : Int) from by omega] at H
             refine ⟨t ++ [k],pl.set k (t.length : Int),t.length,_,hu.2,?_,by omega,hu.1,fun y=>?_,?_,Holds.to (by assumption)⟩
             · rw [Hp.gs _ _ _ _ (by omega),if_pos rfl]
             · simp only [List.mem_append,List.mem_singleton]; exact Or.comm
             · unfold putC; rw [if_neg (by omega),Int.toNat_natCast,e0,if_neg hkn])
          | (have hkt : k ∈ t:=e1.2 hold
             obtain ⟨i,hi,ei⟩:=mg hkt
             have hRp : RI p (pr.getD k default):=by first|exact Int.not_le.1 hgt|exact Decidable.not_not.1 hgt
             refine ⟨t,pl,i,tv,hr.pi,?_,hi,hr.up soI hi ei hRp,fun y=>⟨.inr,fun q=>q.elim (fun e=>e ▸ hkt) id⟩,?_,Holds.to (by assumption)⟩
             · have:=hr.pi.at_ i hi; rwa [ei] at this
             · unfold putC; rw [if_neg (by omega),Int.toNat_natCast,e0,if_pos hkt]; exact if_pos hRp)
        have lp2:=hp2.len
        refine O.ex (Ex.move rfl) rfl ?_
        refine O.ex (by first|exact Ex.nilPtr rfl|exact Ex.nilFunc rfl|exact Ex.nilYield rfl) rfl ?_
        refine O.ex (by first|exact Ex.field0 fld126_2 rfl|exact Ex.field fld126_2 rfl|exact Ex.fieldS fld126_2 rfl) rfl ?_
        refine O.ex (by first|exact Ex.loadP Try.isAgg28 rfl|exact Ex.loadR Try.isAgg28 rfl|exact Ex.loadIn1 Try.isAgg28 rfl (Holds.to (by assumption))) rfl ?_
        refine O.ex (Ex.move rfl) rfl ?_
        refine O.ex (Ex.move rfl) rfl ?_
        refine O.ex (by first|exact Ex.idxR Try.runUnderlying28 Try.sizeOf3 rfl rfl|exact Ex.idxIn Try.runUnderlying28 Try.sizeOf3 rfl rfl|exact Ex.idxS Try.runUnderlying28 Try.sizeOf3 rfl rfl|exact Ex.idx Try.runUnderlying28 Try.sizeOf3 rfl rfl (by omega) (by omega)) rfl ?_
        first|refine O.storeP Try.sizeOf3 rfl rfl (fun w H=>?_)|refine O.storeR Try.sizeOf3 rfl rfl (fun w H=>?_)
        refine O.nil ?_
        refine hK7 _ _ _ ?_
        refine W.seq (fun K8 hK8=>?_)
        refine W.region ?_
        refine O.ex (Ex.move rfl) rfl ?_
        refine O.ex (Ex.move rfl) rfl ?_
        refine O.ex (by first|exact Ex.nilPtr rfl|exact Ex.nilFunc rfl|exact Ex.nilYield rfl) rfl ?_
        refine O.ex (by first|exact Ex.field0 fld126_1 rfl|exact Ex.field fld126_1 rfl|exact Ex.fieldS fld126_1 rfl) rfl ?_
        refine O.ex (by first|exact Ex.loadP Try.isAgg28 rfl|exact Ex.loadR Try.isAgg28 rfl|exact Ex.loadIn1 Try.isAgg28 rfl (Holds.to (by assumption))) rfl ?_
        refine O.ex (Ex.move rfl) rfl ?_
        refine O.ex (by first|exact Ex.idxR Try.runUnderlying28 Try.sizeOf3 rfl rfl|exact Ex.idxIn Try.runUnderlying28 Try.sizeOf3 rfl rfl|exact Ex.idxS Try.runUnderlying28 Try.sizeOf3 rfl rfl|exact Ex.idx Try.runUnderlying28 Try.sizeOf3 rfl rfl (by omega) (by omega)) rfl ?_
        refine O.ex (by first|exact Ex.loadP Try.isAgg3 rfl|exact Ex.loadR Try.isAgg3 rfl|exact Ex.loadIn1 Try.isAgg3 rfl (Holds.to (by assumption))) rfl ?_
        rw [show pl2.getD ((k : Nat) : Int).toNat default = (i : Int) from hat2]
        refine O.callF Try.call93 rfl rfl (CT.mono (upI_ct (n:=s.length) (tv:=tv2) (pv:=pv) (qv:=qv) (t:=t2) (pl:=pl2) (pr:=pr.set k p) hp2 (by rw [List.length_set]; exact lp) h64 hi2 hu2 (hpOI_open.2 (Holds.to (by assumption)))) ?_)
        rintro _ w ⟨-,t3,pl3,hp3,hh3,hm3,H⟩
        refine O.nil ?_
        refine hK8 _ _ _ ?_
        refine W.seq (fun K9 hK9=>?_)
        refine W.region ?_
        refine O.ex (Ex.assign rfl) rfl ?_
        refine O.nil ?_
        refine hK9 _ _ _ ?_
        refine W.ret ?_
        try dsimp only [thenQ,blockQ,retQ]
        first|refine ⟨_,⟨_,_,rfl,rfl,rfl⟩,?_⟩|(refine retD_mark ?_; intro w H; refine ⟨_,⟨_,_,rfl,rfl,rfl⟩,?_⟩)|(refine retD_mark2 ?_; intro w H; refine ⟨_,⟨_,_,rfl,rfl,rfl⟩,?_⟩)
        first
        | (have hc : putC RI s x p = 1:=by unfold putC; rw [if_pos (by omega)]
           have hl : putL RI s x p = s:=by unfold putL; rw [if_neg (by rw [hc]; decide)]
           rw [hc,hl]
           exact ⟨rfl,hqI_open.2 ⟨_,_,_,_,_,_,hr,hpOI_open.2 (Holds.to (by assumption))⟩⟩)
        | (have hkt : k ∈ t:=e1.2 hold
           have hRp : ¬ RI p (pr.getD k default):=by first|exact Int.not_lt.2 hle|exact hle
           have hc : putC RI s k p = 5:=by unfold putC; rw [if_neg (by omega),Int.toNat_natCast,e0,if_pos hkt]; exact if_neg hRp
           have hl : putL RI s k p = s:=by unfold putL; rw [if_neg (by rw [hc]; decide)]
           rw [hc,hl]
           exact ⟨rfl,hqI_open.2 ⟨_,_,_,_,_,_,hr,hpOI_open.2 (Holds.to (by assumption))⟩⟩)
        | (have hl : putL RI s k p = s.set k (some p):=by unfold putL; rw [if_pos hc2,Int.toNat_natCast]
           rw [hc2,hl]
           exact ⟨rfl,hqI_open.2 ⟨_,_,_,_,_,_,hr.put hk hp3 hh3 (fun y=>(hm3 y).trans (hm2 y)),Holds.to (by assumption)⟩⟩)
      · refine W.seq (fun K10 hK10=>?_)
        refine W.region ?_
        refine O.ex (Ex.move rfl) rfl ?_
        refine O.ex (by first|exact Ex.nilPtr rfl|exact Ex.nilFunc rfl|exact Ex.nilYield rfl) rfl ?_
        refine O.ex (by first|exact Ex.field0 fld126_2 rfl|exact Ex.field fld126_2 rfl|exact Ex.fieldS fld126_2 rfl) rfl ?_
        refine O.ex (by first|exact Ex.loadP Try.isAgg28 rfl|exact Ex.loadR Try.isAgg28 rfl|exact Ex.loadIn1 Try.isAgg28 rfl (Holds.to (by assumption))) rfl ?_
        refine O.ex (Ex.move rfl) rfl ?_
        refine O.ex (by first|exact Ex.idxR Try.runUnderlying28 Try.sizeOf3 rfl rfl|exact Ex.idxIn Try.runUnderlying28 Try.sizeOf3 rfl rfl|exact Ex.idxS Try.runUnderlying28 Try.sizeOf3 rfl rfl|exact Ex.idx Try.runUnderlying28 Try.sizeOf3 rfl rfl (by omega) (by omega)) rfl ?_
        refine O.ex (by first|exact Ex.loadP Try.isAgg3 rfl|exact Ex.loadR Try.isAgg3 rfl|exact Ex.loadIn1 Try.isAgg3 rfl (Holds.to (by assumption))) rfl ?_
        refine O.ex (Ex.move rfl) rfl ?_
        refine O.ex (Ex.leq rfl rfl) rfl ?_
        refine O.ex (Ex.assign rfl) rfl ?_
        refine O.nil ?_
        refine hK10 _ _ _ ?_
        first|refine W.cond_p rfl (fun hle=>?_) (fun hgt=>?_)|refine W.cond_b rfl (fun hle=>?_) (fun hgt=>?_)
        · refine W.seq (fun K11 hK11=>?_)
          refine W.region ?_
          refine O.ex (Ex.assign rfl) rfl ?_
          refine O.nil ?_
          refine hK11 _ _ _ ?_
          refine W.ret ?_
          try dsimp only [thenQ,blockQ,retQ]
          first|refine ⟨_,⟨_,_,rfl,rfl,rfl⟩,?_⟩|(refine retD_mark ?_; intro w H; refine ⟨_,⟨_,_,rfl,rfl,rfl⟩,?_⟩)|(refine retD_mark2 ?_; intro w H; refine ⟨_,⟨_,_,rfl,rfl,rfl⟩,?_⟩)
          first
          | (have hc : putC RI s x p = 1:=by unfold putC; rw [if_pos (by omega)]
             have hl : putL RI s x p = s:=by unfold putL; rw [if_neg (by rw [hc]; decide)]
             rw [hc,hl]
             exact ⟨rfl,hqI_open.2 ⟨_,_,_,_,_,_,hr,hpOI_open.2 (Holds.to (by assumption))⟩⟩)
          | (have hkt : k ∈ t:=e1.2 hold
             have hRp : ¬ RI p (pr.getD k default):=by first|exact Int.not_lt.2 hle|exact hle
             have hc : putC RI s k p = 5:=by unfold putC; rw [if_neg (by omega),Int.toNat_natCast,e0,if_pos hkt]; exact if_neg hRp
             have hl : putL RI s k p = s:=by unfold putL; rw [if_neg (by rw [hc]; decide)]
             rw [hc,hl]
             exact ⟨rfl,hqI_open.2 ⟨_,_,_,_,_,_,hr,hpOI_open.2 (Holds.to (by assumption))⟩⟩)
          | (have hl : putL RI s k p = s.set k (some p):=by unfold putL; rw [if_pos hc2,Int.toNat_natCast]
             rw [hc2,hl]
             exact ⟨rfl,hqI_open.2 ⟨_,_,_,_,_,_,hr.put hk hp3 hh3 (fun y=>(hm3 y).trans (hm2 y)),Holds.to (by assumption)⟩⟩)
        · refine W.skip ?_
          refine hK1 _ _ _ ?_
          refine W.seq (fun K12 hK12=>?_)
          refine W.region ?_
          obtain ⟨t2,pl2,i,tv2,hp2,hat2,hi2,hu2,hm2,hc2,H⟩ : ∃ (t2 : List Nat) (pl2 : List Int) (i : Nat) (tv2 : Value),PI s.length t2 pl2 ∧ pl2.getD k default = (i : Int) ∧ i < t2.length ∧ UI (kI (pr.set k p)) t2 i ∧ (∀ y,y ∈ t2 ↔ y = k ∨ y ∈ t) ∧ putC RI s k p = 0 ∧ Holds w (pt h (.cells #[tv2,pv,qv] 126 (0,0))::arr 3 eN tv2 t2::arr 3 (Value.int .i64) pv pl2::arr 3 (Value.int .i64) qv pr::L):=by
            first
            | (have hkn : k ∉ t:=fun q=>e1.1 q hnew
               have hu:=hr.upNew (p:=p) hk hkn
               rw [show ((t ++ [k]).length : Int) - 1 = (t.length : Int) from by omega] at H
               refine ⟨t ++ [k],pl.set k (t.length : Int),t.length,_,hu.2,?_,by omega,hu.1,fun y=>?_,?_,Holds.to (by assumption)⟩
               · rw [Hp.gs _ _ _ _ (by omega),if_pos rfl]
               · simp only [List.mem_append,List.mem_singleton]; exact Or.comm
               · unfold putC; rw [if_neg (by omega),Int.toNat_natCast,e0,if_neg hkn])
            | (have hkt : k ∈ t:=e1.2 hold
               obtain ⟨i,hi,ei⟩:=mg hkt
               have hRp : RI p (pr.getD k default):=by first|exact Int.not_le.1 hgt|exact Decidable.not_not.1 hgt
               refine ⟨t,pl,i,tv,hr.pi,?_,hi,hr.up soI hi ei hRp,fun y=>⟨.inr,fun q=>q.elim (fun e=>e ▸ hkt) id⟩,?_,Holds.to (by assumption)⟩
               · have:=hr.pi.at_ i hi; rwa [ei] at this
               · unfold putC; rw [if_neg (by omega),Int.toNat_natCast,e0,if_pos hkt]; exact if_pos hRp)
          have lp2:=hp2.len
          refine O.ex (Ex.move rfl) rfl ?_
          refine O.ex (by first|exact Ex.nilPtr rfl|exact Ex.nilFunc rfl|exact Ex.nilYield rfl) rfl ?_
          refine O.ex (by first|exact Ex.field0 fld126_2 rfl|exact Ex.field fld126_2 rfl|exact Ex.fieldS fld126_2 rfl) rfl ?_
          refine O.ex (by first|exact Ex.loadP Try.isAgg28 rfl|exact Ex.loadR Try.isAgg28 rfl|exact Ex.loadIn1 Try.isAgg28 rfl (Holds.to (by assumption))) rfl ?_
          refine O.ex (Ex.move rfl) rfl ?_
          refine O.ex (Ex.move rfl) rfl ?_
          refine O.ex (by first|exact Ex.idxR Try.runUnderlying28 Try.sizeOf3 rfl rfl|exact Ex.idxIn Try.runUnderlying28 Try.sizeOf3 rfl rfl|exact Ex.idxS Try.runUnderlying28 Try.sizeOf3 rfl rfl|exact Ex.idx Try.runUnderlying28 Try.sizeOf3 rfl rfl (by omega) (by omega)) rfl ?_
          first|refine O.storeP Try.sizeOf3 rfl rfl (fun w H=>?_)|refine O.storeR Try.sizeOf3 rfl rfl (fun w H=>?_)
          refine O.nil ?_
          refine hK12 _ _ _ ?_
          refine W.seq (fun K13 hK13=>?_)
          refine W.region ?_
          refine O.ex (Ex.move rfl) rfl ?_
          refine O.ex (Ex.move rfl) rfl ?_
          refine O.ex (by first|exact Ex.nilPtr rfl|exact Ex.nilFunc rfl|exact Ex.nilYield rfl) rfl ?_
          refine O.ex (by first|exact Ex.field0 fld126_1 rfl|exact Ex.field fld126_1 rfl|exact Ex.fieldS fld126_1 rfl) rfl ?_
          refine O.ex (by first|exact Ex.loadP Try.isAgg28 rfl|exact Ex.loadR Try.isAgg28 rfl|exact Ex.loadIn1 Try.isAgg28 rfl (Holds.to (by assumption))) rfl ?_
          refine O.ex (Ex.move rfl) rfl ?_
          refine O.ex (by first|exact Ex.idxR Try.runUnderlying28 Try.sizeOf3 rfl rfl|exact Ex.idxIn Try.runUnderlying28 Try.sizeOf3 rfl rfl|exact Ex.idxS Try.runUnderlying28 Try.sizeOf3 rfl rfl|exact Ex.idx Try.runUnderlying28 Try.sizeOf3 rfl rfl (by omega) (by omega)) rfl ?_
          refine O.ex (by first|exact Ex.loadP Try.isAgg3 rfl|exact Ex.loadR Try.isAgg3 rfl|exact Ex.loadIn1 Try.isAgg3 rfl (Holds.to (by assumption))) rfl ?_
          rw [show pl2.getD ((k : Nat) : Int).toNat default = (i : Int) from hat2]
          refine O.callF Try.call93 rfl rfl (CT.mono (upI_ct (n:=s.length) (tv:=tv2) (pv:=pv) (qv:=qv) (t:=t2) (pl:=pl2) (pr:=pr.set k p) hp2 (by rw [List.length_set]; exact lp) h64 hi2 hu2 (hpOI_open.2 (Holds.to (by assumption)))) ?_)
          rintro _ w ⟨-,t3,pl3,hp3,hh3,hm3,H⟩
          refine O.nil ?_
          refine hK13 _ _ _ ?_
          refine W.seq (fun K14 hK14=>?_)
          refine W.region ?_
          refine O.ex (Ex.assign rfl) rfl ?_
          refine O.nil ?_
          refine hK14 _ _ _ ?_
          refine W.ret ?_
          try dsimp only [thenQ,blockQ,retQ]
          first|refine ⟨_,⟨_,_,rfl,rfl,rfl⟩,?_⟩|(refine retD_mark ?_; intro w H; refine ⟨_,⟨_,_,rfl,rfl,rfl⟩,?_⟩)|(refine retD_mark2 ?_; intro w H; refine ⟨_,⟨_,_,rfl,rfl,rfl⟩,?_⟩)
          first
          | (have hc : putC RI s x p = 1:=by unfold putC; rw [if_pos (by omega)]
             have hl : putL RI s x p = s:=by unfold putL; rw [if_neg (by rw [hc]; decide)]
             rw [hc,hl]
             exact ⟨rfl,hqI_open.2 ⟨_,_,_,_,_,_,hr,hpOI_open.2 (Holds.to (by assumption))⟩⟩)
          | (have hkt : k ∈ t:=e1.2 hold
             have hRp : ¬ RI p (pr.getD k default):=by first|exact Int.not_lt.2 hle|exact hle
             have hc : putC RI s k p = 5:=by unfold putC; rw [if_neg (by omega),Int.toNat_natCast,e0,if_pos hkt]; exact if_neg hRp
             have hl : putL RI s k p = s:=by unfold putL; rw [if_neg (by rw [hc]; decide)]
             rw [hc,hl]
             exact ⟨rfl,hqI_open.2 ⟨_,_,_,_,_,_,hr,hpOI_open.2 (Holds.to (by assumption))⟩⟩)
          | (have hl : putL RI s k p = s.set k (some p):=by unfold putL; rw [if_pos hc2,Int.toNat_natCast]
             rw [hc2,hl]
             exact ⟨rfl,hqI_open.2 ⟨_,_,_,_,_,_,hr.put hk hp3 hh3 (fun y=>(hm3 y).trans (hm2 y)),Holds.to (by assumption)⟩⟩)
end Go.Proofs.Ytliofdfhimmjmaa
namespace Go.Proofs.Ytliofdfhimmjmaa
open Go.Rr Go Hp
set_option linter.unusedVariables false
theorem peekI2_ct {w : World} {h : Nat} {s : List (Option Int)} {L : List HProp} (H : Holds w (HqI h s::L)) :
    CT Try.prog 94 [.pointer (some ⟨h,0,none⟩)] w fun u w'=>(bs RI s = none ∧ u = .tuple #[.int .i64 0,.int .i64 0,.bool false] ∧ Holds w' (HqI h s::L)) ∨ (∃ b,bs RI s = some b ∧ u = .tuple #[.int .i64 (b : Int),.int .i64 (pg s b),.bool true] ∧ Holds w' (HqI h s::L)) :=
  (peekIH_ct H).mono fun u w' ⟨hu,H⟩=>by
    cases e : bs RI s with
    | none =>
      refine .inl ⟨rfl,?_,H⟩
      rw [hu]; unfold pkN pkP pkO; rw [e]; rfl
    | some b =>
      refine .inr ⟨b,rfl,?_,H⟩
      rw [hu]; unfold pkN pkP pkO; rw [e]; rfl
set_option maxHeartbeats 1000000 in
theorem popIH_ct {w : World} {h : Nat} {s : List (Option Int)} {L : List HProp} (H : Holds w (HqI h s::L)) :
    CT Try.prog 70 [.pointer (some ⟨h,0,none⟩)] w fun u w'=>(bs RI s = none ∧ u = .tuple #[.int .i64 0,.int .i64 0,.bool false] ∧ Holds w' (HqI h s::L)) ∨ (∃ b,bs RI s = some b ∧ u = .tuple #[.int .i64 (b : Int),.int .i64 (pg s b),.bool true] ∧ Holds w' (HqI h (s.set b none)::L)):=by
  refine CT.enter (N:=55) Try.func70 rfl rfl rfl rfl ?_
  refine W.seq (fun K0 hK0=>?_)
  refine W.region ?_
  refine O.ex (Ex.assign rfl) rfl ?_
  refine O.ex (Ex.assign rfl) rfl ?_
  refine O.ex (Ex.assign rfl) rfl ?_
  refine O.nil ?_
  refine hK0 _ _ _ ?_
  refine W.seq (fun K1 hK1=>?_)
  refine W.region ?_
  refine O.ex (Ex.move rfl) rfl ?_
  refine O.callF Try.call94 rfl rfl (CT.mono (peekI2_ct (Holds.to (by assumption))) ?_)
  rintro _ w hh
  rcases hh with ⟨hb,rfl,H⟩|⟨b,hb,rfl,H⟩
  · refine O.ex (Ex.move rfl) rfl ?_
    refine O.ex (Ex.extract rfl rfl) rfl ?_
    refine O.ex (Ex.extract rfl rfl) rfl ?_
    refine O.ex (Ex.extract rfl rfl) rfl ?_
    refine O.ex (Ex.assign rfl) rfl ?_
    refine O.ex (Ex.assign rfl) rfl ?_
    refine O.ex (Ex.assign rfl) rfl ?_
    refine O.nil ?_
    refine hK1 _ _ _ ?_
    refine W.seq (fun K2 hK2=>?_)
    refine W.seq (fun K3 hK3=>?_)
    refine W.region ?_
    refine O.ex (Ex.move rfl) rfl ?_
    refine O.ex (by first|exact Ex.notD rfl|exact Ex.not rfl) rfl ?_
    refine O.nil ?_
    refine hK3 _ _ _ ?_
    refine W.known_t rfl (by first|rfl|decide|(simp; done)|omega) ?_
    refine W.seq (fun K4 hK4=>?_)
    refine W.region ?_
    refine O.ex (Ex.move rfl) rfl ?_
    refine O.ex (Ex.move rfl) rfl ?_
    refine O.ex (Ex.assign rfl) rfl ?_
    refine O.ex (Ex.assign rfl) rfl ?_
    refine O.ex (Ex.assign rfl) rfl ?_
    refine O.nil ?_
    refine hK4 _ _ _ ?_
    refine W.ret ?_
    try dsimp only [thenQ,blockQ,retQ]
    first|refine ⟨_,⟨_,_,rfl,rfl,_,_,rfl,rfl,_,_,rfl,rfl,rfl⟩,?_⟩|(refine retD_mark ?_; intro w H; refine ⟨_,⟨_,_,rfl,rfl,_,_,rfl,rfl,_,_,rfl,rfl,rfl⟩,?_⟩)|(refine retD_mark2 ?_; intro w H; refine ⟨_,⟨_,_,rfl,rfl,_,_,rfl,rfl,_,_,rfl,rfl,rfl⟩,?_⟩)
    first
    | exact .inl ⟨hb,rfl,by assumption⟩
    | (refine .inr ⟨b,hb,rfl,?_⟩
       have e : s.set b none = popL RI s:=by unfold popL; rw [hb]
       rw [e]
       exact hqI_open.2 ⟨_,_,_,_,_,_,hr.pop soI h0 hp3 hh3 (fun z=>(hm3 z).trans (hcut.2.2 z)),Holds.to (by assumption)⟩)
    | (refine .inr ⟨b,hb,rfl,?_⟩
       have e : s.set b none = popL RI s:=by unfold popL; rw [hb]
       rw [e]
       have H:=(hpOI_open (h:=h) (tv:=hiV tv (t.length - 1)) (pv:=pv) (qv:=qv) (t:=t1) (pl:=(pl.set y ((0 : Nat) : Int)).set (t.getD 0 default) (-1)) (pr:=pr)).2 (Holds.to (by assumption))
       exact hqI_open.2 ⟨_,_,_,_,_,_,hr.pop soI h0 hcut.1 (fun i h1 h2=>by omega) hcut.2.2,Holds.to (by assumption)⟩)
  · refine O.ex (Ex.move rfl) rfl ?_
    refine O.ex (Ex.extract rfl rfl) rfl ?_
    refine O.ex (Ex.extract rfl rfl) rfl ?_
    refine O.ex (Ex.extract rfl rfl) rfl ?_
    refine O.ex (Ex.assign rfl) rfl ?_
    refine O.ex (Ex.assign rfl) rfl ?_
    refine O.ex (Ex.assign rfl) rfl ?_
    refine O.nil ?_
    refine hK1 _ _ _ ?_
    refine W.seq (fun K5 hK5=>?_)
    refine W.seq (fun K6 hK6=>?_)
    refine W.region ?_
    refine O.ex (Ex.move rfl) rfl ?_
    refine O.ex (by first|exact Ex.notD rfl|exact Ex.not rfl) rfl ?_
    refine O.nil ?_
    refine hK6 _ _ _ ?_
    refine W.known_f rfl (by first|rfl|decide|(simp; done)|omega) ?_
    refine W.skip ?_
    refine hK5 _ _ _ ?_
    refine W.seq (fun K7 hK7=>?_)
    refine W.region ?_
    obtain ⟨tv,pv,qv,t,pl,pr,hr,H⟩:=hqI_open.1 H
    have H:=hpOI_open.1 H
    have ll:=hr.pi.len
    have lp:=hr.lp
    have htn:=hr.pi.len_le
    have h64:=hr.n64
    have h0 : 0 < t.length:=by
      refine Nat.pos_of_ne_zero fun e=>?_
      obtain rfl : t = []:=List.length_eq_zero_iff.1 e
      rw [hr.empty] at hb; cases hb
    have hb0 : b = t.getD 0 default:=by have:=hr.first soI h0; rw [hb] at this; exact Option.some.inj this
    have hbn : b < s.length:=by rw [hb0]; exact hr.pi.lt 0 h0
    obtain ⟨y,hy⟩ : ∃ y,y = t.getD (t.length - 1) default:=⟨_,rfl⟩
    have hyn : y < s.length:=by rw [hy]; exact hr.pi.lt _ (by omega)
    have hci : (t.length : Int) - 1 = ((t.length - 1 : Nat) : Int):=by omega
    have hcut:=hr.cut soI h0 hy
    have hls : (t.set 0 y).length = t.length:=by simp
    refine O.ex (Ex.move rfl) rfl ?_
    refine O.ex (by first|exact Ex.nilPtr rfl|exact Ex.nilFunc rfl|exact Ex.nilYield rfl) rfl ?_
    refine O.ex (by first|exact Ex.field0 fld126_0 rfl|exact Ex.field fld126_0 rfl|exact Ex.fieldS fld126_0 rfl) rfl ?_
    refine O.ex (by first|exact Ex.loadP Try.isAgg28 rfl|exact Ex.loadR Try.isAgg28 rfl|exact Ex.loadIn1 Try.isAgg28 rfl (Holds.to (by assumption))) rfl ?_
    refine O.ex (by first|exact Ex.lenR Try.runUnderlying28 rfl|exact Ex.lenIn Try.runUnderlying28 rfl|exact Ex.lenL Try.runUnderlying28 rfl|exact Ex.len rfl Try.runUnderlying28 rfl) rfl ?_
    refine O.ex (by first|exact Ex.subI rfl rfl|exact Ex.sub rfl rfl rfl) rfl ?_
    rw [hci]
    refine O.ex (Ex.assign rfl) rfl ?_
    refine O.nil ?_
    refine hK7 _ _ _ ?_
    refine W.seq (fun K8 hK8=>?_)
    refine W.region ?_
    refine O.ex (Ex.move rfl) rfl ?_
    refine O.ex (Ex.move rfl) rfl ?_
    refine O.ex (by first|exact Ex.nilPtr rfl|exact Ex.nilFunc rfl|exact Ex.nilYield rfl) rfl ?_
    refine O.ex (by first|exact Ex.field0 fld126_0 rfl|exact Ex.field fld126_0 rfl|exact Ex.fieldS fld126_0 rfl) rfl ?_
    refine O.ex (by first|exact Ex.loadP Try.isAgg28 rfl|exact Ex.loadR Try.isAgg28 rfl|exact Ex.loadIn1 Try.isAgg28 rfl (Holds.to (by assumption))) rfl ?_
    refine O.ex (Ex.move rfl) rfl ?_
    refine O.ex (by first|exact Ex.idxR Try.runUnderlying28 Try.sizeOf3 rfl rfl|exact Ex.idxIn Try.runUnderlying28 Try.sizeOf3 rfl rfl|exact Ex.idxS Try.runUnderlying28 Try.sizeOf3 rfl rfl|exact Ex.idx Try.runUnderlying28 Try.sizeOf3 rfl rfl (by omega) (by omega)) rfl ?_
    refine O.ex (by first|exact Ex.loadP Try.isAgg3 rfl|exact Ex.loadR Try.isAgg3 rfl|exact Ex.loadIn1 Try.isAgg3 rfl (Holds.to (by assumption))) rfl ?_
    rw [show t.getD ((t.length - 1 : Nat) : Int).toNat default = y from hy.symm]
    refine O.callF Try.call95 rfl rfl (CT.mono (layI_ct (x:=y) (p:=0) (tv:=tv) (pv:=pv) (qv:=qv) (t:=t) (pl:=pl) (pr:=pr) (by omega) (by omega) (hpOI_open.2 (Holds.to (by assumption)))) ?_)
    rintro _ w ⟨-,H⟩
    have H:=hpOI_open.1 H
    refine O.nil ?_
    refine hK8 _ _ _ ?_
    refine W.seq (fun K9 hK9=>?_)
    refine W.region ?_
    refine O.ex (Ex.move rfl) rfl ?_
    refine O.ex (Ex.move rfl) rfl ?_
    refine O.ex (by first|exact Ex.nilPtr rfl|exact Ex.nilFunc rfl|exact Ex.nilYield rfl) rfl ?_
    refine O.ex (by first|exact Ex.field0 fld126_0 rfl|exact Ex.field fld126_0 rfl|exact Ex.fieldS fld126_0 rfl) rfl ?_
    refine O.ex (by first|exact Ex.loadP Try.isAgg28 rfl|exact Ex.loadR Try.isAgg28 rfl|exact Ex.loadIn1 Try.isAgg28 rfl (Holds.to (by assumption))) rfl ?_
    refine O.ex (Ex.move rfl) rfl ?_
    refine O.ex (Ex.sliceHi Try.runUnderlying28 Try.sizeOf3 rfl rfl) rfl ?_
    refine O.ex (by first|exact Ex.nilPtr rfl|exact Ex.nilFunc rfl|exact Ex.nilYield rfl) rfl ?_
    refine O.ex (by first|exact Ex.field0 fld126_0 rfl|exact Ex.field fld126_0 rfl|exact Ex.fieldS fld126_0 rfl) rfl ?_
    have ho : (hiV tv ((t.length - 1 : Nat) : Int).toNat).oneCell' = true:=arr_hi_one (T:=3) (e:=eN) (xs:=t.set 0 y) (Holds.to (by assumption)) _
    first|refine O.storeP Try.sizeOf28 rfl rfl (fun w H=>?_)|refine O.storeR Try.sizeOf28 rfl rfl (fun w H=>?_)
    refine O.nil ?_
    refine hK9 _ _ _ ?_
    refine W.seq (fun K10 hK10=>?_)
    refine W.region ?_
    have H:=arr_take (hi:=((t.length - 1 : Nat) : Int).toNat) (T:=3) (e:=eN) (v:=tv) (xs:=t.set 0 y) (Holds.to (by assumption)) (by rw [List.length_set]; omega)
    rw [Int.toNat_natCast] at H
    obtain ⟨t1,ht1⟩ : ∃ t1,t1 = (t.set 0 y).take (t.length - 1):=⟨_,rfl⟩
    rw [← ht1] at H hcut
    have hl1 : t1.length = t.length - 1:=by rw [ht1]; simp
    have lpy : (pl.set y ((0 : Nat) : Int)).length = s.length:=by simp [ll]
    refine O.ex (Ex.move rfl) rfl ?_
    refine O.ex (by first|exact Ex.nilPtr rfl|exact Ex.nilFunc rfl|exact Ex.nilYield rfl) rfl ?_
    refine O.ex (by first|exact Ex.field0 fld126_1 rfl|exact Ex.field fld126_1 rfl|exact Ex.fieldS fld126_1 rfl) rfl ?_
    refine O.ex (by first|exact Ex.loadP Try.isAgg28 rfl|exact Ex.loadR Try.isAgg28 rfl|exact Ex.loadIn1 Try.isAgg28 rfl (Holds.to (by assumption))) rfl ?_
    refine O.ex (Ex.move rfl) rfl ?_
    refine O.ex (by first|exact Ex.idxR Try.runUnderlying28 Try.sizeOf3 rfl rfl|exact Ex.idxIn Try.runUnderlying28 Try.sizeOf3 rfl rfl|exact Ex.idxS Try.runUnderlying28 Try.sizeOf3 rfl rfl|exact Ex.idx Try.runUnderlying28 Try.sizeOf3 rfl rfl (by omega) (by omega)) rfl ?_
    first|refine O.storeP Try.sizeOf3 rfl rfl (fun w H=>?_)|refine O.storeR Try.sizeOf3 rfl rfl (fun w H=>?_)
    refine O.nil ?_
    refine hK10 _ _ _ ?_
    refine W.seq (fun K11 hK11=>?_)
    refine W.seq (fun K12 hK12=>?_)
    refine W.region ?_
    rw [hb0] at H
    refine O.ex (Ex.move rfl) rfl ?_
    refine O.ex (Ex.gtr rfl rfl) rfl ?_
    refine O.nil ?_
    refine hK12 _ _ _ ?_
    first|refine W.cond_p rfl (fun hpos=>?_) (fun hlast=>?_)|refine W.cond_b rfl (fun hpos=>?_) (fun hlast=>?_)
    · refine W.region ?_
      refine O.ex (Ex.move rfl) rfl ?_
      refine O.callF Try.call96 rfl rfl (CT.mono (downI_ct (n:=s.length) (p:=0) (tv:=hiV tv (t.length - 1)) (pv:=pv) (qv:=qv) (t:=t1) (pl:=(pl.set y ((0 : Nat) : Int)).set (t.getD 0 default) (-1)) (pr:=pr) hcut.1 lp h64 (by omega) hcut.2.1 (hpOI_open.2 (Holds.to (by assumption)))) ?_)
      rintro _ w ⟨-,t3,pl3,hp3,hh3,hm3,H⟩
      refine O.nil ?_
      refine hK11 _ _ _ ?_
      refine W.seq (fun K13 hK13=>?_)
      refine W.region ?_
      refine O.ex (Ex.move rfl) rfl ?_
      refine O.ex (Ex.move rfl) rfl ?_
      refine O.ex (Ex.assign rfl) rfl ?_
      refine O.ex (Ex.assign rfl) rfl ?_
      refine O.ex (Ex.assign rfl) rfl ?_
      refine O.nil ?_
      refine hK13 _ _ _ ?_
      refine W.ret ?_
      try dsimp only [thenQ,blockQ,retQ]
      first|refine ⟨_,⟨_,_,rfl,rfl,_,_,rfl,rfl,_,_,rfl,rfl,rfl⟩,?_⟩|(refine retD_mark ?_; intro w H; refine ⟨_,⟨_,_,rfl,rfl,_,_,rfl,rfl,_,_,rfl,rfl,rfl⟩,?_⟩)|(refine retD_mark2 ?_; intro w H; refine ⟨_,⟨_,_,rfl,rfl,_,_,rfl,rfl,_,_,rfl,rfl,rfl⟩,?_⟩)
      first
      | exact .inl ⟨hb,rfl,by assumption⟩
      | (refine .inr ⟨b,hb,rfl,?_⟩
         have e : s.set b none = popL RI s:=by unfold popL; rw [hb]
         rw [e]
         exact hqI_open.2 ⟨_,_,_,_,_,_,hr.pop soI h0 hp3 hh3 (fun z=>(hm3 z).trans (hcut.2.2 z)),Holds.to (by assumption)⟩)
      | (refine .inr ⟨b,hb,rfl,?_⟩
         have e : s.set b none = popL RI s:=by unfold popL; rw [hb]
         rw [e]
         have H:=(hpOI_open (h:=h) (tv:=hiV tv (t.length - 1)) (pv:=pv) (qv:=qv) (t:=t1) (pl:=(pl.set y ((0 : Nat) : Int)).set (t.getD 0 default) (-1)) (pr:=pr)).2 (Holds.to (by assumption))
         exact hqI_open.2 ⟨_,_,_,_,_,_,hr.pop soI h0 hcut.1 (fun i h1 h2=>by omega) hcut.2.2,Holds.to (by assumption)⟩)
    · refine W.skip ?_
      refine hK11 _ _ _ ?_
      refine W.seq (fun K14 hK14=>?_)
      refine W.region ?_
      refine O.ex (Ex.move rfl) rfl ?_
      refine O.ex (Ex.move rfl) rfl ?_
      refine O.ex (Ex.assign rfl) rfl ?_
      refine O.ex (Ex.assign rfl) rfl ?_
      refine O.ex (Ex.assign rfl) rfl ?_
      refine O.nil ?_
      refine hK14 _ _ _ ?_
      refine W.ret ?_
      try dsimp only [thenQ,blockQ,retQ]
      first|refine ⟨_,⟨_,_,rfl,rfl,_,_,rfl,rfl,_,_,rfl,rfl,rfl⟩,?_⟩|(refine retD_mark ?_; intro w H; refine ⟨_,⟨_,_,rfl,rfl,_,_,rfl,rfl,_,_,rfl,rfl,rfl⟩,?_⟩)|(refine retD_mark2 ?_; intro w H; refine ⟨_,⟨_,_,rfl,rfl,_,_,rfl,rfl,_,_,rfl,rfl,rfl⟩,?_⟩)
      first
      | exact .inl ⟨hb,rfl,by assumption⟩
      | (refine .inr ⟨b,hb,rfl,?_⟩
         have e : s.set b none = popL RI s:=by unfold popL; rw [hb]
         rw [e]
         exact hqI_open.2 ⟨_,_,_,_,_,_,hr.pop soI h0 hp3 hh3 (fun z=>(hm3 z).trans (hcut.2.2 z)),Holds.to (by assumption)⟩)
      | (refine .inr ⟨b,hb,rfl,?_⟩
         have e : s.set b none = popL RI s:=by unfold popL; rw [hb]
         rw [e]
         have H:=(hpOI_open (h:=h) (tv:=hiV tv (t.length - 1)) (pv:=pv) (qv:=qv) (t:=t1) (pl:=(pl.set y ((0 : Nat) : Int)).set (t.getD 0 default) (-1)) (pr:=pr)).2 (Holds.to (by assumption))
         exact hqI_open.2 ⟨_,_,_,_,_,_,hr.pop soI h0 hcut.1 (fun i h1 h2=>by omega) hcut.2.2,Holds.to (by assumption)⟩)
end Go.Proofs.Ytliofdfhimmjmaa
namespace Go.Proofs.Ytliofdfhimmjmaa
open Go.Rr Go Hp
set_option linter.unusedVariables false
theorem popI1_ct {w : World} {h : Nat} {s : List (Option Int)} {L : List HProp} (H : Holds w (HqI h s::L)) :
    CT Try.prog 70 [.pointer (some ⟨h,0,none⟩)] w fun u w'=>u = .tuple #[.int .i64 (pkN RI s : Int),.int .i64 (pkP RI s),.bool (pkO RI s)] ∧ Holds w' (HqI h (popL RI s)::L) :=
  (popIH_ct H).mono fun u w' hh=>by
    rcases hh with ⟨e,hu,H⟩|⟨b,e,hu,H⟩
    · rw [hu]; unfold pkN pkP pkO popL; rw [e]; exact ⟨rfl,H⟩
    · rw [hu]; unfold pkN pkP pkO popL; rw [e]; exact ⟨rfl,H⟩
end Go.Proofs.Ytliofdfhimmjmaa
