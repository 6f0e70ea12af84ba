/- More of roads, plainly: the best arc is the best one; what is done is taken back by its counterpart. No program in sight. -/
import Derived.Test.YtliofdfhimmjmaaGraphLaw
namespace Go.Proofs.Ytliofdfhimmjmaa
open Go.Rr Go
set_option linter.unusedVariables false
namespace Gr
def mh (s : St) (h i : Int) : Prop:=(s i.toNat).a.h = h ∧ (s i.toNat).a.cl = false
instance (s : St) (h i : Int) : Decidable (mh s h i):=by unfold mh; infer_instance
def BestP (s : St) (h : Int) (l : List Int) (b : Int × Int) : Prop :=
  (b = (4611686018427387906,-1) ∧ ∀ i ∈ l,¬ mh s h i) ∨ (b.2 ∈ l ∧ mh s h b.2 ∧ b.1 = (s b.2.toNat).a.w ∧ ∀ i ∈ l,mh s h i → b.1 < (s i.toNat).a.w ∨ b.1 = (s i.toNat).a.w ∧ b.2 ≤ i)
theorem bestP_step {s : St} {h i : Int} {l : List Int} {b : Int × Int} (hb : BestP s h l b) (hi : ∀ x ∈ l,x < i) (hw : (s i.toNat).a.w < 4611686018427387906) : BestP s h (l ++ [i]) (bst1 s h b i):=by
  unfold bst1
  by_cases hm : mh s h i
  · by_cases hlt : (s i.toNat).a.w < b.1
    · rw [if_pos ⟨hm,hlt⟩]
      refine .inr ⟨List.mem_append_right _ (List.mem_singleton.2 rfl),hm,rfl,fun j hj hmj=>?_⟩
      rcases List.mem_append.1 hj with hj|hj
      · rcases hb with ⟨-,hn⟩|⟨-,-,-,ha⟩
        · exact absurd hmj (hn j hj)
        · rcases ha j hj hmj with h1|⟨h1,-⟩ <;> exact .inl (by dsimp only; omega)
      · rw [List.mem_singleton.1 hj]; exact .inr ⟨rfl,Int.le_refl _⟩
    · rw [if_neg (fun hh=>hlt hh.2)]
      rcases hb with ⟨rfl,-⟩|⟨h1,h2,h3,ha⟩
      · exact absurd hw hlt
      · refine .inr ⟨List.mem_append_left _ h1,h2,h3,fun j hj hmj=>?_⟩
        rcases List.mem_append.1 hj with hj|hj
        · exact ha j hj hmj
        · rw [List.mem_singleton.1 hj]
          have:=hi _ h1
          rcases Int.lt_or_eq_of_le (Int.not_lt.1 hlt) with h4|h4
          · exact .inl h4
          · exact .inr ⟨h4,by omega⟩
  · rw [if_neg (fun hh=>hm hh.1)]
    rcases hb with ⟨rfl,hn⟩|⟨h1,h2,h3,ha⟩
    · refine .inl ⟨rfl,fun j hj=>?_⟩
      rcases List.mem_append.1 hj with hj|hj
      · exact hn j hj
      · rw [List.mem_singleton.1 hj]; exact hm
    · refine .inr ⟨List.mem_append_left _ h1,h2,h3,fun j hj hmj=>?_⟩
      rcases List.mem_append.1 hj with hj|hj
      · exact ha j hj hmj
      · rw [List.mem_singleton.1 hj] at hmj; exact absurd hmj hm
theorem bestP_all {s : St} {h : Int} (hw : ∀ i,(s i).a.w < 4611686018427387906) : ∀ (l2 l1 : List Int),(l1 ++ l2).Pairwise (· < ·) → BestP s h l1 (bestL s h l1) → BestP s h (l1 ++ l2) (bestL s h (l1 ++ l2))
  | [], l1,_,hb=>by rw [List.append_nil]; exact hb
  | i::l2,l1,hp,hb=>by
    rw [show l1 ++ i::l2 = (l1 ++ [i]) ++ l2 by simp] at hp ⊢
    refine bestP_all hw l2 (l1 ++ [i]) hp ?_
    rw [bestL_snoc]
    refine bestP_step hb (fun x hx=>?_) (hw _)
    exact (List.pairwise_append.1 (List.pairwise_append.1 hp).1).2.2 x hx i (List.mem_singleton.2 rfl)
def mt (s : St) (t h i : Int) : Prop:=(0 ≤ i ∧ i < 64) ∧ (s i.toNat).tk = true ∧ (s i.toNat).a.cl = false ∧ (s i.toNat).a.t = t ∧ (s i.toNat).a.h = h
theorem GOk.w_lt {n most : Int} {s : St} (hg : GOk n most s) (i : Nat) : (s i).a.w < 4611686018427387906:=by
  cases h : (s i).tk with
  | true=>have:=(hg.arc i h).2.2; omega
  | false=>rw [hg.free i h]; show (0 : Int) < _; omega
theorem mt_iff {s : St} {t h i : Int} : mt s t h i ↔ i ∈ outI s t ∧ mh s h i:=by
  unfold mt mh outI
  rw [mem_lstP]
  unfold outP
  rw [Bool.and_eq_true,decide_eq_true_eq]
  constructor
  · rintro ⟨h1,h2,h3,h4,h5⟩; exact ⟨⟨h1,h2,h4⟩,h5,h3⟩
  · rintro ⟨⟨h1,h2,h4⟩,h5,h3⟩; exact ⟨h1,h2,h3,h4,h5⟩
theorem best_spec {n most : Int} {s : St} (hg : GOk n most s) (t h : Int) :
    (best s t h = (4611686018427387906,-1) ∧ ∀ i,¬ mt s t h i) ∨ (mt s t h (best s t h).2 ∧ (best s t h).1 = (s (best s t h).2.toNat).a.w ∧ ∀ i,mt s t h i → (best s t h).1 < (s i.toNat).a.w ∨ (best s t h).1 = (s i.toNat).a.w ∧ (best s t h).2 ≤ i):=by
  have:=bestP_all (h:=h) hg.w_lt (outI s t) [] (lstP_pair _) (.inl ⟨rfl,fun i hi=>by cases hi⟩)
  rcases this with ⟨h1,h2⟩|⟨h1,h2,h3,h4⟩
  · exact .inl ⟨h1,fun i hi=>h2 i (mt_iff.1 hi).1 (mt_iff.1 hi).2⟩
  · exact .inr ⟨mt_iff.2 ⟨h1,h2⟩,h3,fun i hi=>h4 i (mt_iff.1 hi).1 (mt_iff.1 hi).2⟩
/-! ### Taken back -/
end Gr
end Go.Proofs.Ytliofdfhimmjmaa
