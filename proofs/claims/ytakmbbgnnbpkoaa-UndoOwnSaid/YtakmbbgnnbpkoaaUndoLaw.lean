/- What is done is undone, plainly. No program in sight. -/
import Derived.Test.YtakmbbgnnbpkoaaUndo6
namespace Go.Proofs.Ytakmbbgnnbpkoaa
open Go.Rr Go Gr
set_option linter.unusedVariables false
theorem thB_of {s : St} {id : Int} (h : thC s id = 0) : thB s id = true ∧ arcQ s id = (s id.toNat).a := by
  obtain ⟨h1, h2⟩ := thC_zero.1 h
  unfold thB arcQ
  rw [decide_eq_true h1, if_pos h1]
  exact ⟨h2, rfl⟩
theorem op_back {n most : Int} {s : St} {op : OpM} (hg : GOk n most s) (hc : cnt s ≤ most) (h : opC n most s op = 0) : unS n most (opS n most s op) op (wasA s op) = s := by
  unfold opC at h
  unfold opS unS
  by_cases h1 : op.f_Kind = 1
  · rw [if_pos h1] at h ⊢; rw [if_pos h1]; exact (ins_back hg h).2
  · rw [if_neg h1] at h ⊢; rw [if_neg h1]
    by_cases h2 : op.f_Kind = 2
    · rw [if_pos h2] at h ⊢; rw [if_pos h2, wasA_yes (thB_of h).1, (thB_of h).2]; exact (del_back hg hc h).2
    · rw [if_neg h2] at h ⊢; rw [if_neg h2]
      by_cases h3 : op.f_Kind = 3
      · rw [if_pos h3] at h ⊢; rw [if_pos h3]; exact (turn_back h).2
      · rw [if_neg h3] at h ⊢; rw [if_neg h3]
        by_cases h4 : op.f_Kind = 4
        · rw [if_pos h4] at h ⊢; rw [if_pos h4]; exact (turn_back h).2
        · rw [if_neg h4] at h ⊢; rw [if_neg h4]
          by_cases h5 : op.f_Kind = 5
          · rw [if_pos h5] at h ⊢; rw [if_pos h5]
            have ht : thC s op.f_A = 0 := thC_zero.2 (weighC_zero.1 h).2
            rw [wasA_yes (thB_of ht).1, (thB_of ht).2]
            exact (weigh_back hg h).2
          · rw [if_neg h5] at h; exact absurd h (by decide)
theorem op_cnt {n most : Int} {s : St} (op : OpM) (hc : cnt s ≤ most) : cnt (opS n most s op) ≤ most := by
  unfold opS
  (repeat' split)
  · unfold insS
    split
    · rename_i e
      obtain ⟨⟨hp, _⟩, hf, hlt⟩ := insC_zero.1 e
      rw [cnt_ins (by have := hp.1; have := hp.2; omega) hf rfl]; omega
    · exact hc
  · unfold delS
    split
    · rename_i e
      obtain ⟨hp, ht⟩ := thC_zero.1 e
      rw [cnt_del (by have := hp.1; have := hp.2; omega) ht rfl]; omega
    · exact hc
  · unfold turnS
    split
    · rw [(lists_same (x := shut (s op.f_A.toNat) true) rfl rfl rfl).2.2]; exact hc
    · exact hc
  · unfold turnS
    split
    · rw [(lists_same (x := shut (s op.f_A.toNat) false) rfl rfl rfl).2.2]; exact hc
    · exact hc
  · unfold weighS
    split
    · rw [(lists_same (x := wgt (s op.f_A.toNat) op.oW) rfl rfl rfl).2.2]; exact hc
    · exact hc
  · exact hc
end Go.Proofs.Ytakmbbgnnbpkoaa
