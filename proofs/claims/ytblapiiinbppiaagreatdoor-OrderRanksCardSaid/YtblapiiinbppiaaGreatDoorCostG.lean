/- The least weight of an open road between two vertices, as a mesh's steps. No program in sight. -/
import Derived.Test.YtblapiiinbppiaaGreatDoorGraphLaw2
import Derived.Test.YtblapiiinbppiaaGreatDoorMeshLaw
namespace Go.Proofs.YtblapiiinbppiaaGreatDoor
open Go.Rr Go Gr
set_option linter.unusedVariables false
/-- The least weight of an open road between two vertices. -/
def cG (s : St) : Int → Int → Int:=fun u w=>if u = w then 4611686018427387906 else (best s u w).1
section
variable {n most : Int} {s : St}
theorem cG_ex (hg : GOk n most s) {u w : Int} (h : cG s u w ≠ 4611686018427387906) : u ≠ w ∧ ∃ i,mt s u w i ∧ cG s u w = (s i.toNat).a.w:=by
  unfold cG at h ⊢
  by_cases e : u = w
  · rw [if_pos e] at h; exact absurd rfl h
  · rw [if_neg e] at h ⊢
    refine ⟨e,?_⟩
    rcases best_spec hg u w with ⟨k,_⟩|⟨h1,h2,_⟩
    · rw [k] at h; exact absurd rfl h
    · exact ⟨_,h1,h2⟩
theorem cG_good (hg : GOk n most s) : Good n (cG s):=by
  have key : ∀ u w,cG s u w = 4611686018427387906 ∨ (1 ≤ cG s u w ∧ cG s u w ≤ 4611686018427387904 ∧ (0 ≤ u ∧ u < n ∧ 0 ≤ w ∧ w < n)):=fun u w=>by
    by_cases h : cG s u w = 4611686018427387906
    · exact .inl h
    · obtain ⟨_,i,hm,e⟩:=cG_ex hg h
      obtain ⟨_,h2,_,h4,h5⟩:=hm
      obtain ⟨⟨a1,a2⟩,a3⟩:=hg.arc _ h2
      rw [h4] at a1; rw [h5] at a2
      exact .inr ⟨by omega,by omega,by omega⟩
  refine ⟨hg.n1,hg.n2,fun u w=>?_,fun u w=>?_,fun u=>if_pos rfl,fun u w h=>?_⟩
  · rcases key u w with k|k <;> omega
  · rcases key u w with k|k <;> omega
  · rcases key u w with k|k
    · exact k
    · exact absurd k.2.2 h
end
/-- What is laid so far: all rows ahead of u, and of row u what is ahead of w. -/
def ofM (s : St) (u w : Int) : Int → Int → Int:=fun a b=>if a < u ∨ (a = u ∧ b < w) then cG s a b else 4611686018427387906
theorem ofM_zero {s : St} {a b : Int} (h0 : 0 ≤ a) (h1 : 0 ≤ b) : ofM s 0 0 a b = 4611686018427387906:=if_neg (by omega)
theorem ofM_row {n most : Int} {s : St} (hg : GOk n most s) {u : Int} {a b : Int} (h1 : 0 ≤ b) : ofM s u n a b = ofM s (u + 1) 0 a b:=by
  unfold ofM
  by_cases e : a < u ∨ (a = u ∧ b < n)
  · rw [if_pos e,if_pos (by omega)]
  · rw [if_neg e]
    by_cases e2 : a < u + 1 ∨ (a = u + 1 ∧ b < 0)
    · rw [if_pos e2,(cG_good hg).out a b (by omega)]
    · rw [if_neg e2]
theorem ofM_end {n most : Int} {s : St} (hg : GOk n most s) {a b : Int} (h1 : 0 ≤ b) : ofM s n 0 a b = cG s a b:=by
  unfold ofM
  by_cases e : a < n ∨ (a = n ∧ b < 0)
  · rw [if_pos e]
  · rw [if_neg e,(cG_good hg).out a b (by omega)]
theorem ofM_put {s : St} {u w : Int} (a b : Int) : upd2 (ofM s u w) u w (cG s u w) a b = ofM s u (w + 1) a b:=by
  unfold upd2 ofM
  by_cases e : a = u ∧ b = w
  · rw [if_pos e,if_pos (by omega),e.1,e.2]
  · rw [if_neg e]
    by_cases e2 : a < u ∨ (a = u ∧ b < w)
    · rw [if_pos e2,if_pos (by omega)]
    · rw [if_neg e2,if_neg (by omega)]
theorem ofM_skip {s : St} {u : Int} (a b : Int) : ofM s u u a b = ofM s u (u + 1) a b:=by
  unfold ofM
  by_cases e2 : a < u ∨ (a = u ∧ b < u)
  · rw [if_pos e2,if_pos (by omega)]
  · rw [if_neg e2]
    by_cases e3 : a < u ∨ (a = u ∧ b < u + 1)
    · rw [if_pos e3,show a = u by omega,show b = u by omega]; exact (if_pos rfl).symm
    · rw [if_neg e3]
end Go.Proofs.YtblapiiinbppiaaGreatDoor
