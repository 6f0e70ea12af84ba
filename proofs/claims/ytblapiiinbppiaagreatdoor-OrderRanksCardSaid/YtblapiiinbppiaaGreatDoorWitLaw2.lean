/- A search that settles the nearest first, more plainly: what comes next is found by looking at all; the searches of fewer and of more; how far it is. No program in sight. -/
import Derived.Test.YtblapiiinbppiaaGreatDoorWitLaw
namespace Go.Proofs.YtblapiiinbppiaaGreatDoor
open Go.Rr Go Hp
set_option linter.unusedVariables false
set_option linter.unusedSectionVars false
namespace Wt
section
variable {N : Nat} {c : Int → Int → Int} {s0 wo : Nat}
def nI : Option Nat → Int
  | none=>-1
  | some b=>b
def fI (c : Int → Int → Int) (s0 : Nat) (P : List (Int × Int)) : Option Nat → Int
  | none=>4611686018427387906
  | some b=>smF c s0 P b
theorem bst_pg {P : List (Int × Int)} {i b : Nat} (hi : i ≤ N) (h : bst RI (hpW N c s0 wo P) i = some b) : b < N ∧ Hp.pg (hpW N c s0 wo P) b = smF c s0 P b ∧ smF c s0 P b < 4611686018427387906:=by
  have hb:=bst_some soI h
  have hl : b < N:=by have:=hb.lt; omega
  have h1:=hb.is
  rw [hpW_get P hl] at h1
  unfold cand at h1
  split at h1
  · cases h1
  · split at h1
    · rename_i h2
      exact ⟨hl,(Option.some.inj h1).symm,h2⟩
    · cases h1
theorem bst_out {P : List (Int × Int)} {i : Nat} (hi : i < N) (h : isIn P i ∨ inS wo (i : Int) = true) : bst RI (hpW N c s0 wo P) (i + 1) = bst RI (hpW N c s0 wo P) i:=by
  rw [bst,hpW_get P hi,show cand c s0 wo P i = none from if_pos h]
theorem bst_nearer {P : List (Int × Int)} {i : Nat} (hi : i < N) (h : ¬ (isIn P i ∨ inS wo (i : Int) = true)) (hn : smF c s0 P i < fI c s0 P (bst RI (hpW N c s0 wo P) i)) : bst RI (hpW N c s0 wo P) (i + 1) = some i:=by
  have hlt : smF c s0 P i < 4611686018427387906:=by
    cases e : bst RI (hpW N c s0 wo P) i with
    | none=>rw [e] at hn; exact hn
    | some b=>rw [e] at hn; have:=(bst_pg (Nat.le_of_lt hi) e).2.2; unfold fI at hn; dsimp only at hn; omega
  rw [bst,hpW_get P hi,show cand c s0 wo P i = some (smF c s0 P i) from by unfold cand; rw [if_neg h,if_pos hlt]]
  cases e : bst RI (hpW N c s0 wo P) i with
  | none=>rfl
  | some b =>
    rw [e] at hn
    dsimp only
    rw [if_pos (by rw [(bst_pg (Nat.le_of_lt hi) e).2.1]; exact hn)]
theorem bst_farther {P : List (Int × Int)} {i : Nat} (hi : i < N) (h : ¬ (isIn P i ∨ inS wo (i : Int) = true)) (hn : ¬ smF c s0 P i < fI c s0 P (bst RI (hpW N c s0 wo P) i)) : bst RI (hpW N c s0 wo P) (i + 1) = bst RI (hpW N c s0 wo P) i:=by
  by_cases hlt : smF c s0 P i < 4611686018427387906
  · rw [bst,hpW_get P hi,show cand c s0 wo P i = some (smF c s0 P i) from by unfold cand; rw [if_neg h,if_pos hlt]]
    cases e : bst RI (hpW N c s0 wo P) i with
    | none=>rw [e] at hn; exact absurd hlt hn
    | some b =>
      rw [e] at hn
      dsimp only
      rw [if_neg (by rw [(bst_pg (Nat.le_of_lt hi) e).2.1]; exact hn)]
  · rw [bst,hpW_get P hi,show cand c s0 wo P i = none from by unfold cand; rw [if_neg h,if_neg hlt]]
theorem bst_all (P : List (Int × Int)) : bst RI (hpW N c s0 wo P) N = nx N c s0 wo P:=by unfold nx bs; rw [hpW_len]
theorem sm_take (c : Int → Int → Int) (P : List (Int × Int)) (w : Int) (i : Nat) (h : i < P.length) : sm c (P.take (i + 1)) w = min (sm c (P.take i) w) (two (P[i]'h).2 (c (P[i]'h).1 w)):=by
  rw [List.take_succ_eq_append_getElem h,sm_snoc]
instance (P : List (Int × Int)) (i : Nat) : Decidable (TQ N c wo P i):=by unfold TQ; infer_instance
/-- A list of so many bools. -/
def tl (N : Nat) (f : Nat → Bool) : List Bool:=(List.range N).map f
theorem tl_len (f : Nat → Bool) : (tl N f).length = N:=by simp [tl]
theorem tl_congr {f g : Nat → Bool} (h : ∀ i,i < N → f i = g i) : tl N f = tl N g:=List.map_congr_left fun i hi=>h i (List.mem_range.1 hi)
theorem tl_set (f : Nat → Bool) {i : Nat} (h : i < N) (v : Bool) : (tl N f).set i v = tl N fun x=>if x = i then v else f x:=by
  refine List.ext_getElem? fun k=>?_
  unfold tl
  rw [List.getElem?_set]
  simp only [List.length_map,List.length_range,List.getElem?_map]
  by_cases hk : k < N
  · rw [List.getElem?_range hk]
    by_cases e : i = k
    · subst e; simp [h]
    · simp [e,Ne.symm e]
  · have : (List.range N)[k]? = none:=by simp; omega
    rw [this]
    simp
    intro e; subst e; omega
theorem tl_false : tl N (fun _=>false) = List.replicate N false:=by
  unfold tl; rw [List.map_const',List.length_range]
/-- What is touched of i, the steps from the first k settled ones looked at. -/
def tqi (c : Int → Int → Int) (wo : Nat) (P : List (Int × Int)) (i k : Nat) : Bool:=decide (isIn P i) || (!inS wo (i : Int) && (P.take k).any fun p=>decide (c p.1 i ≠ 4611686018427387906))
theorem tqi_zero (P : List (Int × Int)) (i : Nat) : tqi c wo P i 0 = decide (isIn P i):=by simp [tqi]
theorem tqi_succ (P : List (Int × Int)) (i k : Nat) (h : k < P.length) : tqi c wo P i (k + 1) = (tqi c wo P i k || (!inS wo (i : Int) && decide (c (P[k]'h).1 i ≠ 4611686018427387906))):=by
  unfold tqi
  rw [List.take_succ_eq_append_getElem h,List.any_append]
  simp only [List.any_cons,List.any_nil,Bool.or_false]
  cases decide (isIn P i) <;> cases inS wo (i : Int) <;> cases (P.take k).any (fun p=>decide (c p.1 i ≠ 4611686018427387906)) <;> simp
theorem tqi_all (P : List (Int × Int)) {i : Nat} (hi : i < N) : tqi c wo P i P.length = decide (TQ N c wo P i):=by
  rw [Bool.eq_iff_iff,decide_eq_true_iff]
  unfold tqi TQ
  rw [List.take_length,Bool.or_eq_true,Bool.and_eq_true,List.any_eq_true]
  simp only [Bool.not_eq_true',decide_eq_true_iff]
  constructor
  · rintro (h|⟨h1,p,hp,h2⟩)
    · exact ⟨hi,.inl h⟩
    · exact ⟨hi,.inr ⟨h1,p,hp,h2⟩⟩
  · rintro ⟨_,h|⟨h1,p,hp,h2⟩⟩
    · exact .inl h
    · exact .inr ⟨h1,p,hp,h2⟩
/-! ### Fewer and more -/
/-- Where a search stops, told by a test. -/
def stopB (N : Nat) (c : Int → Int → Int) (s0 wo : Nat) (settles most : Int) (j : Nat) : Bool :=
  decide (settles ≤ (st N c s0 wo j).length) || match nx N c s0 wo (st N c s0 wo j) with
    | none=>true
    | some b=>decide (norm most < smF c s0 (st N c s0 wo j) b)
theorem stop_iff {settles most : Int} {j : Nat} : stopB N c s0 wo settles most j = true ↔ stopP N c s0 wo settles most j:=by
  unfold stopB stopP
  rw [Bool.or_eq_true,decide_eq_true_iff]
  refine or_congr Iff.rfl ?_
  cases nx N c s0 wo (st N c s0 wo j) with
  | none=>simp
  | some b=>simp
theorem to_of {settles most : Int} {j : Nat} (h : ((List.range j).all fun i=>!stopB N c s0 wo settles most i) = true) : to N c s0 wo settles most j:=fun i hi hs=>by
  have:=List.all_eq_true.1 h i (List.mem_range.2 hi)
  rw [stop_iff.2 hs] at this; cases this
end
end Wt
end Go.Proofs.YtblapiiinbppiaaGreatDoor
